/-
  PpoDeps, walked.
-/
import Derived.Test.YtkfkoldaeplckaaCn
namespace Go.Proofs.Ytkfkoldaeplckaa
open Go Go.Vc
set_option maxRecDepth 100000
set_option linter.unusedSimpArgs false
set_option linter.unusedVariables false
theorem w4 {i : Nat} (h : i ≤ 1000) : IntKind.u32.wrap (IntKind.i64.wrap (4 * (i : Int))) = ((4 * i : Nat) : Int) := by rw [IntKind.wrap_i64, IntKind.wrap_u32]; omega
def f1 (b : Nat) (w : Bool) (i : Nat) : Op := if i = b then op0 (kd w) 4 ((4 * b : Nat) : Int) else f0 i
theorem f1_false (b n : Nat) : fOps f0 n = fOps (f1 b false) n := by
  unfold fOps
  refine List.map_congr_left fun j _ => ?_
  unfold f1
  by_cases h : j = b
  · rw [if_pos h, h]; rfl
  · rw [if_neg h]
theorem f1_true {b n : Nat} (h : b < n) : ((fOps f0 n).map orow).set (0 + (b : Int).toNat) (over (((fOps f0 n).map orow).getD (0 + (b : Int).toNat) []) (0 + 0) [.int .i64 2]) = (fOps (f1 b true) n).map orow :=
  fOps_set f0 h (0 + 0) [.int .i64 2] (op0 (kd true) 4 ((4 * b : Nat) : Int)) rfl
theorem dF_of {b n : Nat} (a how : Nat) (w : Bool) (y : Value) : fOps (fun i => if i = b then dOp a b how w y else f1 b w i) n = fOps (dF a b how w y) n := by
  unfold fOps
  refine List.map_congr_left fun j _ => ?_
  unfold dF f1
  by_cases h : j = b
  · rw [if_pos h, if_pos h]
  · rw [if_neg h, if_neg h, if_neg h]
theorem rowsA {b n : Nat} (a : Nat) (w : Bool) (y : Value) (h : b < n) : ((fOps (f1 b w) n).map orow).set (0 + (b : Int).toNat) (over (((fOps (f1 b w) n).map orow).getD (0 + (b : Int).toNat) []) (0 + 10) [y]) = (fOps (dF a b 0 w y) n).map orow := by
  rw [fOps_set (f1 b w) h (0 + 10) [y] (dOp a b 0 w y) (by unfold f1; rw [if_pos rfl]; rfl), dF_of]
theorem rowsD {b n : Nat} (a : Nat) (w : Bool) (y : Value) (h : b < n) : ((fOps (f1 b w) n).map orow).set (0 + (b : Int).toNat) (over (((fOps (f1 b w) n).map orow).getD (0 + (b : Int).toNat) []) (0 + 11) [y]) = (fOps (dF a b 1 w y) n).map orow := by
  rw [fOps_set (f1 b w) h (0 + 11) [y] (dOp a b 1 w y) (by unfold f1; rw [if_pos rfl]; rfl), dF_of]
theorem rowsC {b n : Nat} (a : Nat) (w : Bool) (y : Value) (h : b < n) : ((fOps (f1 b w) n).map orow).set (0 + (b : Int).toNat) (over (((fOps (f1 b w) n).map orow).getD (0 + (b : Int).toNat) []) (0 + 12) [y]) = (fOps (dF a b 2 w y) n).map orow := by
  rw [fOps_set (f1 b w) h (0 + 12) [y] (dOp a b 2 w y) (by unfold f1; rw [if_pos rfl]; rfl), dF_of]
theorem rows3 {b n : Nat} (a : Nat) (w : Bool) (y : Value) : fOps (f1 b w) n = fOps (dF a b 3 w y) n := by
  rw [← dF_of]
  unfold fOps
  refine List.map_congr_left fun j _ => ?_
  by_cases h : j = b
  · rw [if_pos h, h]; unfold f1; rw [if_pos rfl]; rfl
  · rw [if_neg h]
theorem dF_dep3 (M : HL) (a b n : Nat) (write : Bool) (y : Value) : Deps M (fOps (dF a b 3 write y) n) := by
  intro x hx
  obtain ⟨j, hj, rfl⟩ := List.mem_map.1 hx
  unfold dF
  split
  · exact dep0 ⟨rfl, rfl⟩ ⟨rfl, rfl⟩ ⟨rfl, rfl⟩
  · exact dep0 ⟨rfl, rfl⟩ ⟨rfl, rfl⟩ ⟨rfl, rfl⟩
set_option maxHeartbeats 10000000 in
theorem deps_run (M : HL) (K : SV → List Ent → HL → Prop) (n0 a0 b0 how0 : Int) (write : Bool) (hK : ∀ hp M', K (.v (.bool true)) hp M') :
    runF G9 pf5 [.v (.int .i64 n0), .v (.int .i64 a0), .v (.int .i64 b0), .v (.int .i64 how0), .v (.bool write)] [] M K := by
  repeat ((conv => whnf); (first | refine Cnd.yes ?_ | refine Cnd.no ?_ | refine And.intro rfl ?_ | refine And.intro (by omega) ?_ | (refine And.intro ?_ ?_; focus (simp only [IntKind.wrap_i64, IntKind.wrap_u64, IntKind.wrap_u32]; omega)) | (refine And.intro ?_ ?_; focus (simp only [zl1, zl2, zl3, zl4, zl5, zl6, zl7, zl8, zl9] <;> omega)) | (refine Cnd.tt ?_ ?_; focus (first | (apply decide_eq_true; omega) | (simp only [zq1, zq2, zq3, zq4, zq5, zq6, zq7, zq8, zq9, zq10, zq11, zq12] <;> omega) | rfl)) | (refine Cnd.ff ?_ ?_; focus (first | (apply decide_eq_false; omega) | (simp only [zq1, zq2, zq3, zq4, zq5, zq6, zq7, zq8, zq9, zq10, zq11, zq12] <;> omega) | rfl))))
  conv => whnf
  refine ⟨n0, 12, rfl, rfl, by omega, by omega, fun n1 hn1 => ?_⟩
  obtain ⟨n, hn⟩ : ∃ n : Nat, n = n1 + 2 := ⟨_, rfl⟩
  have e1 : IntKind.i64.wrap ((n1 : Int) + 2) = (n : Int) := by rw [IntKind.wrap_i64]; omega
  have e2 : IntKind.i64.wrap ((n : Int) - 1) = ((n - 1 : Nat) : Int) := by rw [IntKind.wrap_i64]; omega
  repeat ((conv => whnf); (first | refine Cnd.yes ?_ | refine Cnd.no ?_ | refine And.intro rfl ?_ | refine And.intro (by omega) ?_ | (refine And.intro ?_ ?_; focus (simp only [IntKind.wrap_i64, IntKind.wrap_u64, IntKind.wrap_u32]; omega)) | (refine And.intro ?_ ?_; focus (simp only [zl1, zl2, zl3, zl4, zl5, zl6, zl7, zl8, zl9] <;> omega)) | (refine Cnd.tt ?_ ?_; focus (first | (apply decide_eq_true; omega) | (simp only [zq1, zq2, zq3, zq4, zq5, zq6, zq7, zq8, zq9, zq10, zq11, zq12] <;> omega) | rfl)) | (refine Cnd.ff ?_ ?_; focus (first | (apply decide_eq_false; omega) | (simp only [zq1, zq2, zq3, zq4, zq5, zq6, zq7, zq8, zq9, zq10, zq11, zq12] <;> omega) | rfl))))
  conv => whnf
  rw [e1, e2]
  refine ⟨b0, n - 1, rfl, rfl, by omega, by omega, fun b1 hb1 => ?_⟩
  obtain ⟨b, hb⟩ : ∃ b : Nat, b = b1 + 1 := ⟨_, rfl⟩
  have e3 : IntKind.i64.wrap ((b1 : Int) + 1) = (b : Int) := by rw [IntKind.wrap_i64]; omega
  repeat ((conv => whnf); (first | refine Cnd.yes ?_ | refine Cnd.no ?_ | refine And.intro rfl ?_ | refine And.intro (by omega) ?_ | (refine And.intro ?_ ?_; focus (simp only [IntKind.wrap_i64, IntKind.wrap_u64, IntKind.wrap_u32]; omega)) | (refine And.intro ?_ ?_; focus (simp only [zl1, zl2, zl3, zl4, zl5, zl6, zl7, zl8, zl9] <;> omega)) | (refine Cnd.tt ?_ ?_; focus (first | (apply decide_eq_true; omega) | (simp only [zq1, zq2, zq3, zq4, zq5, zq6, zq7, zq8, zq9, zq10, zq11, zq12] <;> omega) | rfl)) | (refine Cnd.ff ?_ ?_; focus (first | (apply decide_eq_false; omega) | (simp only [zq1, zq2, zq3, zq4, zq5, zq6, zq7, zq8, zq9, zq10, zq11, zq12] <;> omega) | rfl))))
  conv => whnf
  rw [e3]
  refine ⟨a0, b, rfl, rfl, by omega, by omega, fun a ha => ?_⟩
  repeat ((conv => whnf); (first | refine Cnd.yes ?_ | refine Cnd.no ?_ | refine And.intro rfl ?_ | refine And.intro (by omega) ?_ | (refine And.intro ?_ ?_; focus (simp only [IntKind.wrap_i64, IntKind.wrap_u64, IntKind.wrap_u32]; omega)) | (refine And.intro ?_ ?_; focus (simp only [zl1, zl2, zl3, zl4, zl5, zl6, zl7, zl8, zl9] <;> omega)) | (refine Cnd.tt ?_ ?_; focus (first | (apply decide_eq_true; omega) | (simp only [zq1, zq2, zq3, zq4, zq5, zq6, zq7, zq8, zq9, zq10, zq11, zq12] <;> omega) | rfl)) | (refine Cnd.ff ?_ ?_; focus (first | (apply decide_eq_false; omega) | (simp only [zq1, zq2, zq3, zq4, zq5, zq6, zq7, zq8, zq9, zq10, zq11, zq12] <;> omega) | rfl))))
  conv => whnf
  refine ⟨how0, 4, rfl, rfl, by omega, by omega, fun how hhow => ?_⟩
  repeat ((conv => whnf); (first | refine Cnd.yes ?_ | refine Cnd.no ?_ | refine And.intro rfl ?_ | refine And.intro (by omega) ?_ | (refine And.intro ?_ ?_; focus (simp only [IntKind.wrap_i64, IntKind.wrap_u64, IntKind.wrap_u32]; omega)) | (refine And.intro ?_ ?_; focus (simp only [zl1, zl2, zl3, zl4, zl5, zl6, zl7, zl8, zl9] <;> omega)) | (refine Cnd.tt ?_ ?_; focus (first | (apply decide_eq_true; omega) | (simp only [zq1, zq2, zq3, zq4, zq5, zq6, zq7, zq8, zq9, zq10, zq11, zq12] <;> omega) | rfl)) | (refine Cnd.ff ?_ ?_; focus (first | (apply decide_eq_false; omega) | (simp only [zq1, zq2, zq3, zq4, zq5, zq6, zq7, zq8, zq9, zq10, zq11, zq12] <;> omega) | rfl))))
  conv => whnf
  refine ⟨InvS 132 (fun s : Nat => n - s) (fun s : Nat => s ≤ n) (fun s : Nat => [(0, .v (.int .i64 n)), (1, .v (.int .i64 a)), (2, .v (.int .i64 b)), (3, .v (.int .i64 how)), (4, .v (.bool write)), (11, .v (.bool true)), (12, .slc 0 13 0 s), (13, .v (.int .i64 s))]) (fun s : Nat => [Ent.row true 30 ock ((fOps f0 s).map orow)]) M, ⟨(fun s : Nat => n - s) 0, [9], tmk 132 0 ((fun s : Nat => [(0, .v (.int .i64 n)), (1, .v (.int .i64 a)), (2, .v (.int .i64 b)), (3, .v (.int .i64 how)), (4, .v (.bool write)), (11, .v (.bool true)), (12, .slc 0 13 0 s), (13, .v (.int .i64 s))]) 0), (fun s : Nat => [Ent.row true 30 ock ((fOps f0 s).map orow)]) 0, ?_⟩, ?_⟩
  · repeat ((conv => whnf); (first | refine Cnd.yes ?_ | refine Cnd.no ?_ | refine And.intro rfl ?_ | refine And.intro (by omega) ?_ | (refine And.intro ?_ ?_; focus (simp only [IntKind.wrap_i64, IntKind.wrap_u64, IntKind.wrap_u32]; omega)) | (refine And.intro ?_ ?_; focus (simp only [zl1, zl2, zl3, zl4, zl5, zl6, zl7, zl8, zl9] <;> omega))))
    conv => whnf
    exact ⟨0, Nat.zero_le _, rfl, rfl, (tmkK_eq _ _ _ _).mpr rfl, rfl⟩
  · rintro cnt tm hp M1 ⟨i, hC_, rfl, rfl, htm, hhp_⟩
    replace hC_ : i ≤ n := hC_
    have hi := hC_
    replace htm : tmkK 132 0 [(0, .v (.int .i64 n)), (1, .v (.int .i64 a)), (2, .v (.int .i64 b)), (3, .v (.int .i64 how)), (4, .v (.bool write)), (11, .v (.bool true)), (12, .slc 0 13 0 i), (13, .v (.int .i64 i))] (fun l => tm = l) := htm
    conv at htm => whnf
    subst htm
    replace hhp_ : hp = [Ent.row true 30 ock ((fOps f0 i).map orow)] := hhp_
    subst hhp_
    repeat ((conv => whnf); (first | refine Cnd.yes ?_ | refine Cnd.no ?_ | refine And.intro rfl ?_ | refine And.intro (by omega) ?_ | (refine And.intro ?_ ?_; focus (simp only [IntKind.wrap_i64, IntKind.wrap_u64, IntKind.wrap_u32]; omega)) | (refine And.intro ?_ ?_; focus (simp only [zl1, zl2, zl3, zl4, zl5, zl6, zl7, zl8, zl9] <;> omega)) | (refine Cnd.tt ?_ ?_; focus (first | (apply decide_eq_true; omega) | (simp only [zq1, zq2, zq3, zq4, zq5, zq6, zq7, zq8, zq9, zq10, zq11, zq12] <;> omega) | rfl)) | (refine Cnd.ff ?_ ?_; focus (first | (apply decide_eq_false; omega) | (simp only [zq1, zq2, zq3, zq4, zq5, zq6, zq7, zq8, zq9, zq10, zq11, zq12] <;> omega) | rfl))))
    conv => whnf
    refine Cnd.mk (fun hlt => ?_) fun hge => ?_
    · have hin : i < n := by have := of_decide_eq_true hlt; omega
      have e4 := w4 (i := i) (by omega)
      have l1 := fOps_len f0 i
      have m1 : List.take i (List.drop 0 ((fOps f0 i).map orow)) ++ List.take 1 (List.drop 0 [orow (f0 i)]) = (fOps f0 (i + 1)).map orow := by
        rw [List.drop_zero, List.take_of_length_le (by simp [l1]), fOps_next, List.map_append]; rfl
      repeat ((conv => whnf); (first | refine Cnd.yes ?_ | refine Cnd.no ?_ | refine And.intro rfl ?_ | refine And.intro (by omega) ?_ | (refine And.intro ?_ ?_; focus (simp only [IntKind.wrap_i64, IntKind.wrap_u64, IntKind.wrap_u32]; omega)) | (refine And.intro ?_ ?_; focus (simp only [zl1, zl2, zl3, zl4, zl5, zl6, zl7, zl8, zl9] <;> omega)) | (refine Cnd.tt ?_ ?_; focus (first | (apply decide_eq_true; omega) | (simp only [zq1, zq2, zq3, zq4, zq5, zq6, zq7, zq8, zq9, zq10, zq11, zq12] <;> omega) | rfl)) | (refine Cnd.ff ?_ ?_; focus (first | (apply decide_eq_false; omega) | (simp only [zq1, zq2, zq3, zq4, zq5, zq6, zq7, zq8, zq9, zq10, zq11, zq12] <;> omega) | rfl))))
      conv => whnf
      rw [e4]
      (refine ⟨(fun s : Nat => n - s) (i + 1), [2], tmk 132 0 ((fun s : Nat => [(0, .v (.int .i64 n)), (1, .v (.int .i64 a)), (2, .v (.int .i64 b)), (3, .v (.int .i64 how)), (4, .v (.bool write)), (11, .v (.bool true)), (12, .slc 0 13 0 s), (13, .v (.int .i64 s))]) (i + 1)), (fun s : Nat => [Ent.row true 30 ock ((fOps f0 s).map orow)]) (i + 1), ?_, ?_⟩; focus (first | (simp only []; omega) | omega))
      repeat ((conv => whnf); (first | refine Cnd.yes ?_ | refine Cnd.no ?_ | refine And.intro rfl ?_ | refine And.intro (by omega) ?_ | (refine And.intro ?_ ?_; focus (simp only [IntKind.wrap_i64, IntKind.wrap_u64, IntKind.wrap_u32]; omega)) | (refine And.intro ?_ ?_; focus (simp only [zl1, zl2, zl3, zl4, zl5, zl6, zl7, zl8, zl9] <;> omega))))
      conv => whnf
      refine ⟨m1, ?_⟩
      repeat ((conv => whnf); (first | refine Cnd.yes ?_ | refine Cnd.no ?_ | refine And.intro rfl ?_ | refine And.intro (by omega) ?_ | (refine And.intro ?_ ?_; focus (simp only [IntKind.wrap_i64, IntKind.wrap_u64, IntKind.wrap_u32]; omega)) | (refine And.intro ?_ ?_; focus (simp only [zl1, zl2, zl3, zl4, zl5, zl6, zl7, zl8, zl9] <;> omega))))
      conv => whnf
      exact ⟨i + 1, hin, rfl, rfl, (tmkK_eq _ _ _ _).mpr rfl, rfl⟩
    · obtain rfl : n = i := by have := of_decide_eq_false hge; omega
      have l1 := fOps_len f0 n
      have hbn : b < n := by omega
      have ebn : 0 + (b : Int).toNat < n := by omega
      cases write
      · rcases (show how = 0 ∨ how = 1 ∨ how = 2 ∨ how = 3 by omega) with rfl | rfl | rfl | rfl
        · repeat ((conv => whnf); (first | refine Cnd.yes ?_ | refine Cnd.no ?_ | refine And.intro rfl ?_ | refine And.intro (by omega) ?_ | (refine And.intro ?_ ?_; focus (simp only [IntKind.wrap_i64, IntKind.wrap_u64, IntKind.wrap_u32]; omega)) | (refine And.intro ?_ ?_; focus (simp only [zl1, zl2, zl3, zl4, zl5, zl6, zl7, zl8, zl9] <;> omega)) | (refine Cnd.tt ?_ ?_; focus (first | (apply decide_eq_true; omega) | (simp only [zq1, zq2, zq3, zq4, zq5, zq6, zq7, zq8, zq9, zq10, zq11, zq12] <;> omega) | rfl)) | (refine Cnd.ff ?_ ?_; focus (first | (apply decide_eq_false; omega) | (simp only [zq1, zq2, zq3, zq4, zq5, zq6, zq7, zq8, zq9, zq10, zq11, zq12] <;> omega) | rfl))))
          conv => whnf
          intro y M2 hM2 hR2
          replace hR2 : Vc.RowsIn M2 3 [.int .i64] y [[Value.int .i64 a]] := hR2
          repeat ((conv => whnf); (first | refine Cnd.yes ?_ | refine Cnd.no ?_ | refine And.intro rfl ?_ | refine And.intro (by omega) ?_ | (refine And.intro ?_ ?_; focus (simp only [IntKind.wrap_i64, IntKind.wrap_u64, IntKind.wrap_u32]; omega)) | (refine And.intro ?_ ?_; focus (simp only [zl1, zl2, zl3, zl4, zl5, zl6, zl7, zl8, zl9] <;> omega)) | (refine Cnd.tt ?_ ?_; focus (first | (apply decide_eq_true; omega) | (simp only [zq1, zq2, zq3, zq4, zq5, zq6, zq7, zq8, zq9, zq10, zq11, zq12] <;> omega) | rfl)) | (refine Cnd.ff ?_ ?_; focus (first | (apply decide_eq_false; omega) | (simp only [zq1, zq2, zq3, zq4, zq5, zq6, zq7, zq8, zq9, zq10, zq11, zq12] <;> omega) | rfl))))
          conv => whnf
          rw [f1_false b n, rowsA a false y hbn]
          have hl := fOps_len (dF a b 0 false y) n
          refine ⟨InvS 132 (fun s : Nat => n - s) (fun s : Nat => s ≤ n) (fun s : Nat => [(0, .v (.int .i64 n)), (1, .v (.int .i64 a)), (2, .v (.int .i64 b)), (11, .v (.bool true)), (12, .slc 0 13 0 n), (14, .v (.int .i64 9)), (15, .v (.int .i64 s))]) (fun s : Nat => [Ent.row true 30 ock ((fOps (dF a b 0 false y) n).map orow)]) M2, ⟨(fun s : Nat => n - s) 0, [0], tmk 132 0 ((fun s : Nat => [(0, .v (.int .i64 n)), (1, .v (.int .i64 a)), (2, .v (.int .i64 b)), (11, .v (.bool true)), (12, .slc 0 13 0 n), (14, .v (.int .i64 9)), (15, .v (.int .i64 s))]) 0), (fun s : Nat => [Ent.row true 30 ock ((fOps (dF a b 0 false y) n).map orow)]) 0, ?_⟩, ?_⟩
          · repeat ((conv => whnf); (first | refine Cnd.yes ?_ | refine Cnd.no ?_ | refine And.intro rfl ?_ | refine And.intro (by omega) ?_ | (refine And.intro ?_ ?_; focus (simp only [IntKind.wrap_i64, IntKind.wrap_u64, IntKind.wrap_u32]; omega)) | (refine And.intro ?_ ?_; focus (simp only [zl1, zl2, zl3, zl4, zl5, zl6, zl7, zl8, zl9] <;> omega))))
            conv => whnf
            exact ⟨0, Nat.zero_le _, rfl, rfl, (tmkK_eq _ _ _ _).mpr rfl, rfl⟩
          · rintro cnt tm hp M1 ⟨i, hC_, rfl, rfl, htm, hhp_⟩
            replace hC_ : i ≤ n := hC_
            have hi2 := hC_
            replace htm : tmkK 132 0 [(0, .v (.int .i64 n)), (1, .v (.int .i64 a)), (2, .v (.int .i64 b)), (11, .v (.bool true)), (12, .slc 0 13 0 n), (14, .v (.int .i64 9)), (15, .v (.int .i64 i))] (fun l => tm = l) := htm
            conv at htm => whnf
            subst htm
            replace hhp_ : hp = [Ent.row true 30 ock ((fOps (dF a b 0 false y) n).map orow)] := hhp_
            subst hhp_
            repeat ((conv => whnf); (first | refine Cnd.yes ?_ | refine Cnd.no ?_ | refine And.intro rfl ?_ | refine And.intro (by omega) ?_ | (refine And.intro ?_ ?_; focus (simp only [IntKind.wrap_i64, IntKind.wrap_u64, IntKind.wrap_u32]; omega)) | (refine And.intro ?_ ?_; focus (simp only [zl1, zl2, zl3, zl4, zl5, zl6, zl7, zl8, zl9] <;> omega)) | (refine Cnd.tt ?_ ?_; focus (first | (apply decide_eq_true; omega) | (simp only [zq1, zq2, zq3, zq4, zq5, zq6, zq7, zq8, zq9, zq10, zq11, zq12] <;> omega) | rfl)) | (refine Cnd.ff ?_ ?_; focus (first | (apply decide_eq_false; omega) | (simp only [zq1, zq2, zq3, zq4, zq5, zq6, zq7, zq8, zq9, zq10, zq11, zq12] <;> omega) | rfl))))
            conv => whnf
            refine Cnd.mk (fun hlt => ?_) fun hge2 => ?_
            · have hin : i < n := by have := of_decide_eq_true hlt; omega
              have e5 : IntKind.i64.wrap ((i : Int) + 1) = ((i + 1 : Nat) : Int) := by rw [IntKind.wrap_i64]; omega
              repeat ((conv => whnf); (first | refine Cnd.yes ?_ | refine Cnd.no ?_ | refine And.intro rfl ?_ | refine And.intro (by omega) ?_ | (refine And.intro ?_ ?_; focus (simp only [IntKind.wrap_i64, IntKind.wrap_u64, IntKind.wrap_u32]; omega)) | (refine And.intro ?_ ?_; focus (simp only [zl1, zl2, zl3, zl4, zl5, zl6, zl7, zl8, zl9] <;> omega)) | (refine Cnd.tt ?_ ?_; focus (first | (apply decide_eq_true; omega) | (simp only [zq1, zq2, zq3, zq4, zq5, zq6, zq7, zq8, zq9, zq10, zq11, zq12] <;> omega) | rfl)) | (refine Cnd.ff ?_ ?_; focus (first | (apply decide_eq_false; omega) | (simp only [zq1, zq2, zq3, zq4, zq5, zq6, zq7, zq8, zq9, zq10, zq11, zq12] <;> omega) | rfl))))
              conv => whnf
              rw [e5]
              refine ⟨InvS 132 (fun s : Nat => n - s) (fun s : Nat => i + 1 ≤ s ∧ s ≤ n) (fun s : Nat => [(0, .v (.int .i64 n)), (1, .v (.int .i64 a)), (2, .v (.int .i64 b)), (11, .v (.bool true)), (12, .slc 0 13 0 n), (14, .v (.int .i64 9)), (15, .v (.int .i64 i)), (16, .v (.int .i64 s))]) (fun s : Nat => [Ent.row true 30 ock ((fOps (dF a b 0 false y) n).map orow)]) M1, ⟨(fun s : Nat => n - s) (i + 1), [0], tmk 132 0 ((fun s : Nat => [(0, .v (.int .i64 n)), (1, .v (.int .i64 a)), (2, .v (.int .i64 b)), (11, .v (.bool true)), (12, .slc 0 13 0 n), (14, .v (.int .i64 9)), (15, .v (.int .i64 i)), (16, .v (.int .i64 s))]) (i + 1)), (fun s : Nat => [Ent.row true 30 ock ((fOps (dF a b 0 false y) n).map orow)]) (i + 1), ?_⟩, ?_⟩
              · repeat ((conv => whnf); (first | refine Cnd.yes ?_ | refine Cnd.no ?_ | refine And.intro rfl ?_ | refine And.intro (by omega) ?_ | (refine And.intro ?_ ?_; focus (simp only [IntKind.wrap_i64, IntKind.wrap_u64, IntKind.wrap_u32]; omega)) | (refine And.intro ?_ ?_; focus (simp only [zl1, zl2, zl3, zl4, zl5, zl6, zl7, zl8, zl9] <;> omega))))
                conv => whnf
                exact ⟨i + 1, ⟨Nat.le_refl _, hin⟩, rfl, rfl, (tmkK_eq _ _ _ _).mpr rfl, rfl⟩
              · rintro cnt tm hp M1 ⟨k, hC_, rfl, rfl, htm, hhp_⟩
                replace hC_ : i + 1 ≤ k ∧ k ≤ n := hC_
                obtain ⟨hk1,hk2⟩ := hC_
                replace htm : tmkK 132 0 [(0, .v (.int .i64 n)), (1, .v (.int .i64 a)), (2, .v (.int .i64 b)), (11, .v (.bool true)), (12, .slc 0 13 0 n), (14, .v (.int .i64 9)), (15, .v (.int .i64 i)), (16, .v (.int .i64 k))] (fun l => tm = l) := htm
                conv at htm => whnf
                subst htm
                replace hhp_ : hp = [Ent.row true 30 ock ((fOps (dF a b 0 false y) n).map orow)] := hhp_
                subst hhp_
                repeat ((conv => whnf); (first | refine Cnd.yes ?_ | refine Cnd.no ?_ | refine And.intro rfl ?_ | refine And.intro (by omega) ?_ | (refine And.intro ?_ ?_; focus (simp only [IntKind.wrap_i64, IntKind.wrap_u64, IntKind.wrap_u32]; omega)) | (refine And.intro ?_ ?_; focus (simp only [zl1, zl2, zl3, zl4, zl5, zl6, zl7, zl8, zl9] <;> omega)) | (refine Cnd.tt ?_ ?_; focus (first | (apply decide_eq_true; omega) | (simp only [zq1, zq2, zq3, zq4, zq5, zq6, zq7, zq8, zq9, zq10, zq11, zq12] <;> omega) | rfl)) | (refine Cnd.ff ?_ ?_; focus (first | (apply decide_eq_false; omega) | (simp only [zq1, zq2, zq3, zq4, zq5, zq6, zq7, zq8, zq9, zq10, zq11, zq12] <;> omega) | rfl))))
                conv => whnf
                refine Cnd.mk (fun hlt2 => ?_) fun hge3 => ?_
                · have hkn : k < n := by have := of_decide_eq_true hlt2; omega
                  have hw := dF_why a b 0 n false y (show i < k by omega) hkn
                  by_cases q1 : i = a
                  · by_cases q2 : k = b
                    · rw [if_pos ⟨q1, q2⟩] at hw
                      repeat ((conv => whnf); (first | refine Cnd.yes ?_ | refine Cnd.no ?_ | refine And.intro rfl ?_ | refine And.intro (by omega) ?_ | (refine And.intro ?_ ?_; focus (simp only [IntKind.wrap_i64, IntKind.wrap_u64, IntKind.wrap_u32]; omega)) | (refine And.intro ?_ ?_; focus (simp only [zl1, zl2, zl3, zl4, zl5, zl6, zl7, zl8, zl9] <;> omega)) | (refine Cnd.tt ?_ ?_; focus (first | (apply decide_eq_true; omega) | (simp only [zq1, zq2, zq3, zq4, zq5, zq6, zq7, zq8, zq9, zq10, zq11, zq12] <;> omega) | rfl)) | (refine Cnd.ff ?_ ?_; focus (first | (apply decide_eq_false; omega) | (simp only [zq1, zq2, zq3, zq4, zq5, zq6, zq7, zq8, zq9, zq10, zq11, zq12] <;> omega) | rfl))))
                      conv => whnf
                      refine ⟨true, 30, fOps (dF a b 0 false y) n, i, k, by rw [hl], rfl, by omega, dF_fit a b 0 n false y (by omega), dF_dep a b 0 n false hR2, ?_⟩
                      rw [hw, show wantD 0 false = 9 from rfl]
                      repeat ((conv => whnf); (first | refine Cnd.yes ?_ | refine Cnd.no ?_ | refine And.intro rfl ?_ | refine And.intro (by omega) ?_ | (refine And.intro ?_ ?_; focus (simp only [IntKind.wrap_i64, IntKind.wrap_u64, IntKind.wrap_u32]; omega)) | (refine And.intro ?_ ?_; focus (simp only [zl1, zl2, zl3, zl4, zl5, zl6, zl7, zl8, zl9] <;> omega)) | (refine Cnd.tt ?_ ?_; focus (first | (apply decide_eq_true; omega) | (simp only [zq1, zq2, zq3, zq4, zq5, zq6, zq7, zq8, zq9, zq10, zq11, zq12] <;> omega) | rfl)) | (refine Cnd.ff ?_ ?_; focus (first | (apply decide_eq_false; omega) | (simp only [zq1, zq2, zq3, zq4, zq5, zq6, zq7, zq8, zq9, zq10, zq11, zq12] <;> omega) | rfl))))
                      conv => whnf
                      (refine ⟨(fun s : Nat => n - s) (k + 1), [0], tmk 132 0 ((fun s : Nat => [(0, .v (.int .i64 n)), (1, .v (.int .i64 a)), (2, .v (.int .i64 b)), (11, .v (.bool true)), (12, .slc 0 13 0 n), (14, .v (.int .i64 9)), (15, .v (.int .i64 i)), (16, .v (.int .i64 s))]) (k + 1)), (fun s : Nat => [Ent.row true 30 ock ((fOps (dF a b 0 false y) n).map orow)]) (k + 1), ?_, ?_⟩; focus (first | (simp only []; omega) | omega))
                      repeat ((conv => whnf); (first | refine Cnd.yes ?_ | refine Cnd.no ?_ | refine And.intro rfl ?_ | refine And.intro (by omega) ?_ | (refine And.intro ?_ ?_; focus (simp only [IntKind.wrap_i64, IntKind.wrap_u64, IntKind.wrap_u32]; omega)) | (refine And.intro ?_ ?_; focus (simp only [zl1, zl2, zl3, zl4, zl5, zl6, zl7, zl8, zl9] <;> omega))))
                      conv => whnf
                      exact ⟨k + 1, ⟨by omega, hkn⟩, rfl, rfl, (tmkK_eq _ _ _ _).mpr rfl, rfl⟩
                    · rw [if_neg (fun h => q2 h.2)] at hw
                      repeat ((conv => whnf); (first | refine Cnd.yes ?_ | refine Cnd.no ?_ | refine And.intro rfl ?_ | refine And.intro (by omega) ?_ | (refine And.intro ?_ ?_; focus (simp only [IntKind.wrap_i64, IntKind.wrap_u64, IntKind.wrap_u32]; omega)) | (refine And.intro ?_ ?_; focus (simp only [zl1, zl2, zl3, zl4, zl5, zl6, zl7, zl8, zl9] <;> omega)) | (refine Cnd.tt ?_ ?_; focus (first | (apply decide_eq_true; omega) | (simp only [zq1, zq2, zq3, zq4, zq5, zq6, zq7, zq8, zq9, zq10, zq11, zq12] <;> omega) | rfl)) | (refine Cnd.ff ?_ ?_; focus (first | (apply decide_eq_false; omega) | (simp only [zq1, zq2, zq3, zq4, zq5, zq6, zq7, zq8, zq9, zq10, zq11, zq12] <;> omega) | rfl))))
                      conv => whnf
                      refine ⟨true, 30, fOps (dF a b 0 false y) n, i, k, by rw [hl], rfl, by omega, dF_fit a b 0 n false y (by omega), dF_dep a b 0 n false hR2, ?_⟩
                      rw [hw]
                      repeat ((conv => whnf); (first | refine Cnd.yes ?_ | refine Cnd.no ?_ | refine And.intro rfl ?_ | refine And.intro (by omega) ?_ | (refine And.intro ?_ ?_; focus (simp only [IntKind.wrap_i64, IntKind.wrap_u64, IntKind.wrap_u32]; omega)) | (refine And.intro ?_ ?_; focus (simp only [zl1, zl2, zl3, zl4, zl5, zl6, zl7, zl8, zl9] <;> omega)) | (refine Cnd.tt ?_ ?_; focus (first | (apply decide_eq_true; omega) | (simp only [zq1, zq2, zq3, zq4, zq5, zq6, zq7, zq8, zq9, zq10, zq11, zq12] <;> omega) | rfl)) | (refine Cnd.ff ?_ ?_; focus (first | (apply decide_eq_false; omega) | (simp only [zq1, zq2, zq3, zq4, zq5, zq6, zq7, zq8, zq9, zq10, zq11, zq12] <;> omega) | rfl))))
                      conv => whnf
                      (refine ⟨(fun s : Nat => n - s) (k + 1), [0], tmk 132 0 ((fun s : Nat => [(0, .v (.int .i64 n)), (1, .v (.int .i64 a)), (2, .v (.int .i64 b)), (11, .v (.bool true)), (12, .slc 0 13 0 n), (14, .v (.int .i64 9)), (15, .v (.int .i64 i)), (16, .v (.int .i64 s))]) (k + 1)), (fun s : Nat => [Ent.row true 30 ock ((fOps (dF a b 0 false y) n).map orow)]) (k + 1), ?_, ?_⟩; focus (first | (simp only []; omega) | omega))
                      repeat ((conv => whnf); (first | refine Cnd.yes ?_ | refine Cnd.no ?_ | refine And.intro rfl ?_ | refine And.intro (by omega) ?_ | (refine And.intro ?_ ?_; focus (simp only [IntKind.wrap_i64, IntKind.wrap_u64, IntKind.wrap_u32]; omega)) | (refine And.intro ?_ ?_; focus (simp only [zl1, zl2, zl3, zl4, zl5, zl6, zl7, zl8, zl9] <;> omega))))
                      conv => whnf
                      exact ⟨k + 1, ⟨by omega, hkn⟩, rfl, rfl, (tmkK_eq _ _ _ _).mpr rfl, rfl⟩
                  · rw [if_neg (fun h => q1 h.1)] at hw
                    repeat ((conv => whnf); (first | refine Cnd.yes ?_ | refine Cnd.no ?_ | refine And.intro rfl ?_ | refine And.intro (by omega) ?_ | (refine And.intro ?_ ?_; focus (simp only [IntKind.wrap_i64, IntKind.wrap_u64, IntKind.wrap_u32]; omega)) | (refine And.intro ?_ ?_; focus (simp only [zl1, zl2, zl3, zl4, zl5, zl6, zl7, zl8, zl9] <;> omega)) | (refine Cnd.tt ?_ ?_; focus (first | (apply decide_eq_true; omega) | (simp only [zq1, zq2, zq3, zq4, zq5, zq6, zq7, zq8, zq9, zq10, zq11, zq12] <;> omega) | rfl)) | (refine Cnd.ff ?_ ?_; focus (first | (apply decide_eq_false; omega) | (simp only [zq1, zq2, zq3, zq4, zq5, zq6, zq7, zq8, zq9, zq10, zq11, zq12] <;> omega) | rfl))))
                    conv => whnf
                    refine ⟨true, 30, fOps (dF a b 0 false y) n, i, k, by rw [hl], rfl, by omega, dF_fit a b 0 n false y (by omega), dF_dep a b 0 n false hR2, ?_⟩
                    rw [hw]
                    repeat ((conv => whnf); (first | refine Cnd.yes ?_ | refine Cnd.no ?_ | refine And.intro rfl ?_ | refine And.intro (by omega) ?_ | (refine And.intro ?_ ?_; focus (simp only [IntKind.wrap_i64, IntKind.wrap_u64, IntKind.wrap_u32]; omega)) | (refine And.intro ?_ ?_; focus (simp only [zl1, zl2, zl3, zl4, zl5, zl6, zl7, zl8, zl9] <;> omega)) | (refine Cnd.tt ?_ ?_; focus (first | (apply decide_eq_true; omega) | (simp only [zq1, zq2, zq3, zq4, zq5, zq6, zq7, zq8, zq9, zq10, zq11, zq12] <;> omega) | rfl)) | (refine Cnd.ff ?_ ?_; focus (first | (apply decide_eq_false; omega) | (simp only [zq1, zq2, zq3, zq4, zq5, zq6, zq7, zq8, zq9, zq10, zq11, zq12] <;> omega) | rfl))))
                    conv => whnf
                    (refine ⟨(fun s : Nat => n - s) (k + 1), [0], tmk 132 0 ((fun s : Nat => [(0, .v (.int .i64 n)), (1, .v (.int .i64 a)), (2, .v (.int .i64 b)), (11, .v (.bool true)), (12, .slc 0 13 0 n), (14, .v (.int .i64 9)), (15, .v (.int .i64 i)), (16, .v (.int .i64 s))]) (k + 1)), (fun s : Nat => [Ent.row true 30 ock ((fOps (dF a b 0 false y) n).map orow)]) (k + 1), ?_, ?_⟩; focus (first | (simp only []; omega) | omega))
                    repeat ((conv => whnf); (first | refine Cnd.yes ?_ | refine Cnd.no ?_ | refine And.intro rfl ?_ | refine And.intro (by omega) ?_ | (refine And.intro ?_ ?_; focus (simp only [IntKind.wrap_i64, IntKind.wrap_u64, IntKind.wrap_u32]; omega)) | (refine And.intro ?_ ?_; focus (simp only [zl1, zl2, zl3, zl4, zl5, zl6, zl7, zl8, zl9] <;> omega))))
                    conv => whnf
                    exact ⟨k + 1, ⟨by omega, hkn⟩, rfl, rfl, (tmkK_eq _ _ _ _).mpr rfl, rfl⟩
                · repeat ((conv => whnf); (first | refine Cnd.yes ?_ | refine Cnd.no ?_ | refine And.intro rfl ?_ | refine And.intro (by omega) ?_ | (refine And.intro ?_ ?_; focus (simp only [IntKind.wrap_i64, IntKind.wrap_u64, IntKind.wrap_u32]; omega)) | (refine And.intro ?_ ?_; focus (simp only [zl1, zl2, zl3, zl4, zl5, zl6, zl7, zl8, zl9] <;> omega)) | (refine Cnd.tt ?_ ?_; focus (first | (apply decide_eq_true; omega) | (simp only [zq1, zq2, zq3, zq4, zq5, zq6, zq7, zq8, zq9, zq10, zq11, zq12] <;> omega) | rfl)) | (refine Cnd.ff ?_ ?_; focus (first | (apply decide_eq_false; omega) | (simp only [zq1, zq2, zq3, zq4, zq5, zq6, zq7, zq8, zq9, zq10, zq11, zq12] <;> omega) | rfl))))
                  conv => whnf
                  (refine ⟨(fun s : Nat => n - s) ((i + 1)), [0], tmk 132 0 ((fun s : Nat => [(0, .v (.int .i64 n)), (1, .v (.int .i64 a)), (2, .v (.int .i64 b)), (11, .v (.bool true)), (12, .slc 0 13 0 n), (14, .v (.int .i64 9)), (15, .v (.int .i64 s))]) ((i + 1))), (fun s : Nat => [Ent.row true 30 ock ((fOps (dF a b 0 false y) n).map orow)]) ((i + 1)), ?_, ?_⟩; focus (first | (simp only []; omega) | omega))
                  repeat ((conv => whnf); (first | refine Cnd.yes ?_ | refine Cnd.no ?_ | refine And.intro rfl ?_ | refine And.intro (by omega) ?_ | (refine And.intro ?_ ?_; focus (simp only [IntKind.wrap_i64, IntKind.wrap_u64, IntKind.wrap_u32]; omega)) | (refine And.intro ?_ ?_; focus (simp only [zl1, zl2, zl3, zl4, zl5, zl6, zl7, zl8, zl9] <;> omega))))
                  conv => whnf
                  exact ⟨i + 1, hin, rfl, rfl, (tmkK_eq _ _ _ _).mpr rfl, rfl⟩
            · repeat ((conv => whnf); (first | refine Cnd.yes ?_ | refine Cnd.no ?_ | refine And.intro rfl ?_ | refine And.intro (by omega) ?_ | (refine And.intro ?_ ?_; focus (simp only [IntKind.wrap_i64, IntKind.wrap_u64, IntKind.wrap_u32]; omega)) | (refine And.intro ?_ ?_; focus (simp only [zl1, zl2, zl3, zl4, zl5, zl6, zl7, zl8, zl9] <;> omega)) | (refine Cnd.tt ?_ ?_; focus (first | (apply decide_eq_true; omega) | (simp only [zq1, zq2, zq3, zq4, zq5, zq6, zq7, zq8, zq9, zq10, zq11, zq12] <;> omega) | rfl)) | (refine Cnd.ff ?_ ?_; focus (first | (apply decide_eq_false; omega) | (simp only [zq1, zq2, zq3, zq4, zq5, zq6, zq7, zq8, zq9, zq10, zq11, zq12] <;> omega) | rfl))))
              conv => whnf
              refine ⟨true, 30, fOps (dF a b 0 false y) n, b, a, by rw [hl], rfl, by omega, dF_fit a b 0 n false y (by omega), dF_dep a b 0 n false hR2, ?_⟩
              rw [whyN_out (by omega)]
              repeat ((conv => whnf); (first | refine Cnd.yes ?_ | refine Cnd.no ?_ | refine And.intro rfl ?_ | refine And.intro (by omega) ?_ | (refine And.intro ?_ ?_; focus (simp only [IntKind.wrap_i64, IntKind.wrap_u64, IntKind.wrap_u32]; omega)) | (refine And.intro ?_ ?_; focus (simp only [zl1, zl2, zl3, zl4, zl5, zl6, zl7, zl8, zl9] <;> omega)) | (refine Cnd.tt ?_ ?_; focus (first | (apply decide_eq_true; omega) | (simp only [zq1, zq2, zq3, zq4, zq5, zq6, zq7, zq8, zq9, zq10, zq11, zq12] <;> omega) | rfl)) | (refine Cnd.ff ?_ ?_; focus (first | (apply decide_eq_false; omega) | (simp only [zq1, zq2, zq3, zq4, zq5, zq6, zq7, zq8, zq9, zq10, zq11, zq12] <;> omega) | rfl))))
              conv => whnf
              refine ⟨true, 30, fOps (dF a b 0 false y) n, a, a, by rw [hl], rfl, by omega, dF_fit a b 0 n false y (by omega), dF_dep a b 0 n false hR2, ?_⟩
              rw [whyN_out (by omega)]
              repeat ((conv => whnf); (first | refine Cnd.yes ?_ | refine Cnd.no ?_ | refine And.intro rfl ?_ | refine And.intro (by omega) ?_ | (refine And.intro ?_ ?_; focus (simp only [IntKind.wrap_i64, IntKind.wrap_u64, IntKind.wrap_u32]; omega)) | (refine And.intro ?_ ?_; focus (simp only [zl1, zl2, zl3, zl4, zl5, zl6, zl7, zl8, zl9] <;> omega)) | (refine Cnd.tt ?_ ?_; focus (first | (apply decide_eq_true; omega) | (simp only [zq1, zq2, zq3, zq4, zq5, zq6, zq7, zq8, zq9, zq10, zq11, zq12] <;> omega) | rfl)) | (refine Cnd.ff ?_ ?_; focus (first | (apply decide_eq_false; omega) | (simp only [zq1, zq2, zq3, zq4, zq5, zq6, zq7, zq8, zq9, zq10, zq11, zq12] <;> omega) | rfl))))
              conv => whnf
              refine ⟨true, 30, fOps (dF a b 0 false y) n, -1, b, by rw [hl], rfl, by omega, dF_fit a b 0 n false y (by omega), dF_dep a b 0 n false hR2, ?_⟩
              rw [whyN_out (by omega)]
              repeat ((conv => whnf); (first | refine Cnd.yes ?_ | refine Cnd.no ?_ | refine And.intro rfl ?_ | refine And.intro (by omega) ?_ | (refine And.intro ?_ ?_; focus (simp only [IntKind.wrap_i64, IntKind.wrap_u64, IntKind.wrap_u32]; omega)) | (refine And.intro ?_ ?_; focus (simp only [zl1, zl2, zl3, zl4, zl5, zl6, zl7, zl8, zl9] <;> omega)) | (refine Cnd.tt ?_ ?_; focus (first | (apply decide_eq_true; omega) | (simp only [zq1, zq2, zq3, zq4, zq5, zq6, zq7, zq8, zq9, zq10, zq11, zq12] <;> omega) | rfl)) | (refine Cnd.ff ?_ ?_; focus (first | (apply decide_eq_false; omega) | (simp only [zq1, zq2, zq3, zq4, zq5, zq6, zq7, zq8, zq9, zq10, zq11, zq12] <;> omega) | rfl))))
              conv => whnf
              refine ⟨true, 30, fOps (dF a b 0 false y) n, a, n, by rw [hl], rfl, by omega, dF_fit a b 0 n false y (by omega), dF_dep a b 0 n false hR2, ?_⟩
              rw [whyN_out (by omega)]
              repeat ((conv => whnf); (first | refine Cnd.yes ?_ | refine Cnd.no ?_ | refine And.intro rfl ?_ | refine And.intro (by omega) ?_ | (refine And.intro ?_ ?_; focus (simp only [IntKind.wrap_i64, IntKind.wrap_u64, IntKind.wrap_u32]; omega)) | (refine And.intro ?_ ?_; focus (simp only [zl1, zl2, zl3, zl4, zl5, zl6, zl7, zl8, zl9] <;> omega)) | (refine Cnd.tt ?_ ?_; focus (first | (apply decide_eq_true; omega) | (simp only [zq1, zq2, zq3, zq4, zq5, zq6, zq7, zq8, zq9, zq10, zq11, zq12] <;> omega) | rfl)) | (refine Cnd.ff ?_ ?_; focus (first | (apply decide_eq_false; omega) | (simp only [zq1, zq2, zq3, zq4, zq5, zq6, zq7, zq8, zq9, zq10, zq11, zq12] <;> omega) | rfl))))
              conv => whnf
              exact hK _ _
        · repeat ((conv => whnf); (first | refine Cnd.yes ?_ | refine Cnd.no ?_ | refine And.intro rfl ?_ | refine And.intro (by omega) ?_ | (refine And.intro ?_ ?_; focus (simp only [IntKind.wrap_i64, IntKind.wrap_u64, IntKind.wrap_u32]; omega)) | (refine And.intro ?_ ?_; focus (simp only [zl1, zl2, zl3, zl4, zl5, zl6, zl7, zl8, zl9] <;> omega)) | (refine Cnd.tt ?_ ?_; focus (first | (apply decide_eq_true; omega) | (simp only [zq1, zq2, zq3, zq4, zq5, zq6, zq7, zq8, zq9, zq10, zq11, zq12] <;> omega) | rfl)) | (refine Cnd.ff ?_ ?_; focus (first | (apply decide_eq_false; omega) | (simp only [zq1, zq2, zq3, zq4, zq5, zq6, zq7, zq8, zq9, zq10, zq11, zq12] <;> omega) | rfl))))
          conv => whnf
          intro y M2 hM2 hR2
          replace hR2 : Vc.RowsIn M2 3 [.int .i64] y [[Value.int .i64 a]] := hR2
          repeat ((conv => whnf); (first | refine Cnd.yes ?_ | refine Cnd.no ?_ | refine And.intro rfl ?_ | refine And.intro (by omega) ?_ | (refine And.intro ?_ ?_; focus (simp only [IntKind.wrap_i64, IntKind.wrap_u64, IntKind.wrap_u32]; omega)) | (refine And.intro ?_ ?_; focus (simp only [zl1, zl2, zl3, zl4, zl5, zl6, zl7, zl8, zl9] <;> omega)) | (refine Cnd.tt ?_ ?_; focus (first | (apply decide_eq_true; omega) | (simp only [zq1, zq2, zq3, zq4, zq5, zq6, zq7, zq8, zq9, zq10, zq11, zq12] <;> omega) | rfl)) | (refine Cnd.ff ?_ ?_; focus (first | (apply decide_eq_false; omega) | (simp only [zq1, zq2, zq3, zq4, zq5, zq6, zq7, zq8, zq9, zq10, zq11, zq12] <;> omega) | rfl))))
          conv => whnf
          rw [f1_false b n, rowsD a false y hbn]
          have hl := fOps_len (dF a b 1 false y) n
          refine ⟨InvS 132 (fun s : Nat => n - s) (fun s : Nat => s ≤ n) (fun s : Nat => [(0, .v (.int .i64 n)), (1, .v (.int .i64 a)), (2, .v (.int .i64 b)), (11, .v (.bool true)), (12, .slc 0 13 0 n), (14, .v (.int .i64 10)), (15, .v (.int .i64 s))]) (fun s : Nat => [Ent.row true 30 ock ((fOps (dF a b 1 false y) n).map orow)]) M2, ⟨(fun s : Nat => n - s) 0, [0], tmk 132 0 ((fun s : Nat => [(0, .v (.int .i64 n)), (1, .v (.int .i64 a)), (2, .v (.int .i64 b)), (11, .v (.bool true)), (12, .slc 0 13 0 n), (14, .v (.int .i64 10)), (15, .v (.int .i64 s))]) 0), (fun s : Nat => [Ent.row true 30 ock ((fOps (dF a b 1 false y) n).map orow)]) 0, ?_⟩, ?_⟩
          · repeat ((conv => whnf); (first | refine Cnd.yes ?_ | refine Cnd.no ?_ | refine And.intro rfl ?_ | refine And.intro (by omega) ?_ | (refine And.intro ?_ ?_; focus (simp only [IntKind.wrap_i64, IntKind.wrap_u64, IntKind.wrap_u32]; omega)) | (refine And.intro ?_ ?_; focus (simp only [zl1, zl2, zl3, zl4, zl5, zl6, zl7, zl8, zl9] <;> omega))))
            conv => whnf
            exact ⟨0, Nat.zero_le _, rfl, rfl, (tmkK_eq _ _ _ _).mpr rfl, rfl⟩
          · rintro cnt tm hp M1 ⟨i, hC_, rfl, rfl, htm, hhp_⟩
            replace hC_ : i ≤ n := hC_
            have hi2 := hC_
            replace htm : tmkK 132 0 [(0, .v (.int .i64 n)), (1, .v (.int .i64 a)), (2, .v (.int .i64 b)), (11, .v (.bool true)), (12, .slc 0 13 0 n), (14, .v (.int .i64 10)), (15, .v (.int .i64 i))] (fun l => tm = l) := htm
            conv at htm => whnf
            subst htm
            replace hhp_ : hp = [Ent.row true 30 ock ((fOps (dF a b 1 false y) n).map orow)] := hhp_
            subst hhp_
            repeat ((conv => whnf); (first | refine Cnd.yes ?_ | refine Cnd.no ?_ | refine And.intro rfl ?_ | refine And.intro (by omega) ?_ | (refine And.intro ?_ ?_; focus (simp only [IntKind.wrap_i64, IntKind.wrap_u64, IntKind.wrap_u32]; omega)) | (refine And.intro ?_ ?_; focus (simp only [zl1, zl2, zl3, zl4, zl5, zl6, zl7, zl8, zl9] <;> omega)) | (refine Cnd.tt ?_ ?_; focus (first | (apply decide_eq_true; omega) | (simp only [zq1, zq2, zq3, zq4, zq5, zq6, zq7, zq8, zq9, zq10, zq11, zq12] <;> omega) | rfl)) | (refine Cnd.ff ?_ ?_; focus (first | (apply decide_eq_false; omega) | (simp only [zq1, zq2, zq3, zq4, zq5, zq6, zq7, zq8, zq9, zq10, zq11, zq12] <;> omega) | rfl))))
            conv => whnf
            refine Cnd.mk (fun hlt => ?_) fun hge2 => ?_
            · have hin : i < n := by have := of_decide_eq_true hlt; omega
              have e5 : IntKind.i64.wrap ((i : Int) + 1) = ((i + 1 : Nat) : Int) := by rw [IntKind.wrap_i64]; omega
              repeat ((conv => whnf); (first | refine Cnd.yes ?_ | refine Cnd.no ?_ | refine And.intro rfl ?_ | refine And.intro (by omega) ?_ | (refine And.intro ?_ ?_; focus (simp only [IntKind.wrap_i64, IntKind.wrap_u64, IntKind.wrap_u32]; omega)) | (refine And.intro ?_ ?_; focus (simp only [zl1, zl2, zl3, zl4, zl5, zl6, zl7, zl8, zl9] <;> omega)) | (refine Cnd.tt ?_ ?_; focus (first | (apply decide_eq_true; omega) | (simp only [zq1, zq2, zq3, zq4, zq5, zq6, zq7, zq8, zq9, zq10, zq11, zq12] <;> omega) | rfl)) | (refine Cnd.ff ?_ ?_; focus (first | (apply decide_eq_false; omega) | (simp only [zq1, zq2, zq3, zq4, zq5, zq6, zq7, zq8, zq9, zq10, zq11, zq12] <;> omega) | rfl))))
              conv => whnf
              rw [e5]
              refine ⟨InvS 132 (fun s : Nat => n - s) (fun s : Nat => i + 1 ≤ s ∧ s ≤ n) (fun s : Nat => [(0, .v (.int .i64 n)), (1, .v (.int .i64 a)), (2, .v (.int .i64 b)), (11, .v (.bool true)), (12, .slc 0 13 0 n), (14, .v (.int .i64 10)), (15, .v (.int .i64 i)), (16, .v (.int .i64 s))]) (fun s : Nat => [Ent.row true 30 ock ((fOps (dF a b 1 false y) n).map orow)]) M1, ⟨(fun s : Nat => n - s) (i + 1), [0], tmk 132 0 ((fun s : Nat => [(0, .v (.int .i64 n)), (1, .v (.int .i64 a)), (2, .v (.int .i64 b)), (11, .v (.bool true)), (12, .slc 0 13 0 n), (14, .v (.int .i64 10)), (15, .v (.int .i64 i)), (16, .v (.int .i64 s))]) (i + 1)), (fun s : Nat => [Ent.row true 30 ock ((fOps (dF a b 1 false y) n).map orow)]) (i + 1), ?_⟩, ?_⟩
              · repeat ((conv => whnf); (first | refine Cnd.yes ?_ | refine Cnd.no ?_ | refine And.intro rfl ?_ | refine And.intro (by omega) ?_ | (refine And.intro ?_ ?_; focus (simp only [IntKind.wrap_i64, IntKind.wrap_u64, IntKind.wrap_u32]; omega)) | (refine And.intro ?_ ?_; focus (simp only [zl1, zl2, zl3, zl4, zl5, zl6, zl7, zl8, zl9] <;> omega))))
                conv => whnf
                exact ⟨i + 1, ⟨Nat.le_refl _, hin⟩, rfl, rfl, (tmkK_eq _ _ _ _).mpr rfl, rfl⟩
              · rintro cnt tm hp M1 ⟨k, hC_, rfl, rfl, htm, hhp_⟩
                replace hC_ : i + 1 ≤ k ∧ k ≤ n := hC_
                obtain ⟨hk1,hk2⟩ := hC_
                replace htm : tmkK 132 0 [(0, .v (.int .i64 n)), (1, .v (.int .i64 a)), (2, .v (.int .i64 b)), (11, .v (.bool true)), (12, .slc 0 13 0 n), (14, .v (.int .i64 10)), (15, .v (.int .i64 i)), (16, .v (.int .i64 k))] (fun l => tm = l) := htm
                conv at htm => whnf
                subst htm
                replace hhp_ : hp = [Ent.row true 30 ock ((fOps (dF a b 1 false y) n).map orow)] := hhp_
                subst hhp_
                repeat ((conv => whnf); (first | refine Cnd.yes ?_ | refine Cnd.no ?_ | refine And.intro rfl ?_ | refine And.intro (by omega) ?_ | (refine And.intro ?_ ?_; focus (simp only [IntKind.wrap_i64, IntKind.wrap_u64, IntKind.wrap_u32]; omega)) | (refine And.intro ?_ ?_; focus (simp only [zl1, zl2, zl3, zl4, zl5, zl6, zl7, zl8, zl9] <;> omega)) | (refine Cnd.tt ?_ ?_; focus (first | (apply decide_eq_true; omega) | (simp only [zq1, zq2, zq3, zq4, zq5, zq6, zq7, zq8, zq9, zq10, zq11, zq12] <;> omega) | rfl)) | (refine Cnd.ff ?_ ?_; focus (first | (apply decide_eq_false; omega) | (simp only [zq1, zq2, zq3, zq4, zq5, zq6, zq7, zq8, zq9, zq10, zq11, zq12] <;> omega) | rfl))))
                conv => whnf
                refine Cnd.mk (fun hlt2 => ?_) fun hge3 => ?_
                · have hkn : k < n := by have := of_decide_eq_true hlt2; omega
                  have hw := dF_why a b 1 n false y (show i < k by omega) hkn
                  by_cases q1 : i = a
                  · by_cases q2 : k = b
                    · rw [if_pos ⟨q1, q2⟩] at hw
                      repeat ((conv => whnf); (first | refine Cnd.yes ?_ | refine Cnd.no ?_ | refine And.intro rfl ?_ | refine And.intro (by omega) ?_ | (refine And.intro ?_ ?_; focus (simp only [IntKind.wrap_i64, IntKind.wrap_u64, IntKind.wrap_u32]; omega)) | (refine And.intro ?_ ?_; focus (simp only [zl1, zl2, zl3, zl4, zl5, zl6, zl7, zl8, zl9] <;> omega)) | (refine Cnd.tt ?_ ?_; focus (first | (apply decide_eq_true; omega) | (simp only [zq1, zq2, zq3, zq4, zq5, zq6, zq7, zq8, zq9, zq10, zq11, zq12] <;> omega) | rfl)) | (refine Cnd.ff ?_ ?_; focus (first | (apply decide_eq_false; omega) | (simp only [zq1, zq2, zq3, zq4, zq5, zq6, zq7, zq8, zq9, zq10, zq11, zq12] <;> omega) | rfl))))
                      conv => whnf
                      refine ⟨true, 30, fOps (dF a b 1 false y) n, i, k, by rw [hl], rfl, by omega, dF_fit a b 1 n false y (by omega), dF_dep a b 1 n false hR2, ?_⟩
                      rw [hw, show wantD 1 false = 10 from rfl]
                      repeat ((conv => whnf); (first | refine Cnd.yes ?_ | refine Cnd.no ?_ | refine And.intro rfl ?_ | refine And.intro (by omega) ?_ | (refine And.intro ?_ ?_; focus (simp only [IntKind.wrap_i64, IntKind.wrap_u64, IntKind.wrap_u32]; omega)) | (refine And.intro ?_ ?_; focus (simp only [zl1, zl2, zl3, zl4, zl5, zl6, zl7, zl8, zl9] <;> omega)) | (refine Cnd.tt ?_ ?_; focus (first | (apply decide_eq_true; omega) | (simp only [zq1, zq2, zq3, zq4, zq5, zq6, zq7, zq8, zq9, zq10, zq11, zq12] <;> omega) | rfl)) | (refine Cnd.ff ?_ ?_; focus (first | (apply decide_eq_false; omega) | (simp only [zq1, zq2, zq3, zq4, zq5, zq6, zq7, zq8, zq9, zq10, zq11, zq12] <;> omega) | rfl))))
                      conv => whnf
                      (refine ⟨(fun s : Nat => n - s) (k + 1), [0], tmk 132 0 ((fun s : Nat => [(0, .v (.int .i64 n)), (1, .v (.int .i64 a)), (2, .v (.int .i64 b)), (11, .v (.bool true)), (12, .slc 0 13 0 n), (14, .v (.int .i64 10)), (15, .v (.int .i64 i)), (16, .v (.int .i64 s))]) (k + 1)), (fun s : Nat => [Ent.row true 30 ock ((fOps (dF a b 1 false y) n).map orow)]) (k + 1), ?_, ?_⟩; focus (first | (simp only []; omega) | omega))
                      repeat ((conv => whnf); (first | refine Cnd.yes ?_ | refine Cnd.no ?_ | refine And.intro rfl ?_ | refine And.intro (by omega) ?_ | (refine And.intro ?_ ?_; focus (simp only [IntKind.wrap_i64, IntKind.wrap_u64, IntKind.wrap_u32]; omega)) | (refine And.intro ?_ ?_; focus (simp only [zl1, zl2, zl3, zl4, zl5, zl6, zl7, zl8, zl9] <;> omega))))
                      conv => whnf
                      exact ⟨k + 1, ⟨by omega, hkn⟩, rfl, rfl, (tmkK_eq _ _ _ _).mpr rfl, rfl⟩
                    · rw [if_neg (fun h => q2 h.2)] at hw
                      repeat ((conv => whnf); (first | refine Cnd.yes ?_ | refine Cnd.no ?_ | refine And.intro rfl ?_ | refine And.intro (by omega) ?_ | (refine And.intro ?_ ?_; focus (simp only [IntKind.wrap_i64, IntKind.wrap_u64, IntKind.wrap_u32]; omega)) | (refine And.intro ?_ ?_; focus (simp only [zl1, zl2, zl3, zl4, zl5, zl6, zl7, zl8, zl9] <;> omega)) | (refine Cnd.tt ?_ ?_; focus (first | (apply decide_eq_true; omega) | (simp only [zq1, zq2, zq3, zq4, zq5, zq6, zq7, zq8, zq9, zq10, zq11, zq12] <;> omega) | rfl)) | (refine Cnd.ff ?_ ?_; focus (first | (apply decide_eq_false; omega) | (simp only [zq1, zq2, zq3, zq4, zq5, zq6, zq7, zq8, zq9, zq10, zq11, zq12] <;> omega) | rfl))))
                      conv => whnf
                      refine ⟨true, 30, fOps (dF a b 1 false y) n, i, k, by rw [hl], rfl, by omega, dF_fit a b 1 n false y (by omega), dF_dep a b 1 n false hR2, ?_⟩
                      rw [hw]
                      repeat ((conv => whnf); (first | refine Cnd.yes ?_ | refine Cnd.no ?_ | refine And.intro rfl ?_ | refine And.intro (by omega) ?_ | (refine And.intro ?_ ?_; focus (simp only [IntKind.wrap_i64, IntKind.wrap_u64, IntKind.wrap_u32]; omega)) | (refine And.intro ?_ ?_; focus (simp only [zl1, zl2, zl3, zl4, zl5, zl6, zl7, zl8, zl9] <;> omega)) | (refine Cnd.tt ?_ ?_; focus (first | (apply decide_eq_true; omega) | (simp only [zq1, zq2, zq3, zq4, zq5, zq6, zq7, zq8, zq9, zq10, zq11, zq12] <;> omega) | rfl)) | (refine Cnd.ff ?_ ?_; focus (first | (apply decide_eq_false; omega) | (simp only [zq1, zq2, zq3, zq4, zq5, zq6, zq7, zq8, zq9, zq10, zq11, zq12] <;> omega) | rfl))))
                      conv => whnf
                      (refine ⟨(fun s : Nat => n - s) (k + 1), [0], tmk 132 0 ((fun s : Nat => [(0, .v (.int .i64 n)), (1, .v (.int .i64 a)), (2, .v (.int .i64 b)), (11, .v (.bool true)), (12, .slc 0 13 0 n), (14, .v (.int .i64 10)), (15, .v (.int .i64 i)), (16, .v (.int .i64 s))]) (k + 1)), (fun s : Nat => [Ent.row true 30 ock ((fOps (dF a b 1 false y) n).map orow)]) (k + 1), ?_, ?_⟩; focus (first | (simp only []; omega) | omega))
                      repeat ((conv => whnf); (first | refine Cnd.yes ?_ | refine Cnd.no ?_ | refine And.intro rfl ?_ | refine And.intro (by omega) ?_ | (refine And.intro ?_ ?_; focus (simp only [IntKind.wrap_i64, IntKind.wrap_u64, IntKind.wrap_u32]; omega)) | (refine And.intro ?_ ?_; focus (simp only [zl1, zl2, zl3, zl4, zl5, zl6, zl7, zl8, zl9] <;> omega))))
                      conv => whnf
                      exact ⟨k + 1, ⟨by omega, hkn⟩, rfl, rfl, (tmkK_eq _ _ _ _).mpr rfl, rfl⟩
                  · rw [if_neg (fun h => q1 h.1)] at hw
                    repeat ((conv => whnf); (first | refine Cnd.yes ?_ | refine Cnd.no ?_ | refine And.intro rfl ?_ | refine And.intro (by omega) ?_ | (refine And.intro ?_ ?_; focus (simp only [IntKind.wrap_i64, IntKind.wrap_u64, IntKind.wrap_u32]; omega)) | (refine And.intro ?_ ?_; focus (simp only [zl1, zl2, zl3, zl4, zl5, zl6, zl7, zl8, zl9] <;> omega)) | (refine Cnd.tt ?_ ?_; focus (first | (apply decide_eq_true; omega) | (simp only [zq1, zq2, zq3, zq4, zq5, zq6, zq7, zq8, zq9, zq10, zq11, zq12] <;> omega) | rfl)) | (refine Cnd.ff ?_ ?_; focus (first | (apply decide_eq_false; omega) | (simp only [zq1, zq2, zq3, zq4, zq5, zq6, zq7, zq8, zq9, zq10, zq11, zq12] <;> omega) | rfl))))
                    conv => whnf
                    refine ⟨true, 30, fOps (dF a b 1 false y) n, i, k, by rw [hl], rfl, by omega, dF_fit a b 1 n false y (by omega), dF_dep a b 1 n false hR2, ?_⟩
                    rw [hw]
                    repeat ((conv => whnf); (first | refine Cnd.yes ?_ | refine Cnd.no ?_ | refine And.intro rfl ?_ | refine And.intro (by omega) ?_ | (refine And.intro ?_ ?_; focus (simp only [IntKind.wrap_i64, IntKind.wrap_u64, IntKind.wrap_u32]; omega)) | (refine And.intro ?_ ?_; focus (simp only [zl1, zl2, zl3, zl4, zl5, zl6, zl7, zl8, zl9] <;> omega)) | (refine Cnd.tt ?_ ?_; focus (first | (apply decide_eq_true; omega) | (simp only [zq1, zq2, zq3, zq4, zq5, zq6, zq7, zq8, zq9, zq10, zq11, zq12] <;> omega) | rfl)) | (refine Cnd.ff ?_ ?_; focus (first | (apply decide_eq_false; omega) | (simp only [zq1, zq2, zq3, zq4, zq5, zq6, zq7, zq8, zq9, zq10, zq11, zq12] <;> omega) | rfl))))
                    conv => whnf
                    (refine ⟨(fun s : Nat => n - s) (k + 1), [0], tmk 132 0 ((fun s : Nat => [(0, .v (.int .i64 n)), (1, .v (.int .i64 a)), (2, .v (.int .i64 b)), (11, .v (.bool true)), (12, .slc 0 13 0 n), (14, .v (.int .i64 10)), (15, .v (.int .i64 i)), (16, .v (.int .i64 s))]) (k + 1)), (fun s : Nat => [Ent.row true 30 ock ((fOps (dF a b 1 false y) n).map orow)]) (k + 1), ?_, ?_⟩; focus (first | (simp only []; omega) | omega))
                    repeat ((conv => whnf); (first | refine Cnd.yes ?_ | refine Cnd.no ?_ | refine And.intro rfl ?_ | refine And.intro (by omega) ?_ | (refine And.intro ?_ ?_; focus (simp only [IntKind.wrap_i64, IntKind.wrap_u64, IntKind.wrap_u32]; omega)) | (refine And.intro ?_ ?_; focus (simp only [zl1, zl2, zl3, zl4, zl5, zl6, zl7, zl8, zl9] <;> omega))))
                    conv => whnf
                    exact ⟨k + 1, ⟨by omega, hkn⟩, rfl, rfl, (tmkK_eq _ _ _ _).mpr rfl, rfl⟩
                · repeat ((conv => whnf); (first | refine Cnd.yes ?_ | refine Cnd.no ?_ | refine And.intro rfl ?_ | refine And.intro (by omega) ?_ | (refine And.intro ?_ ?_; focus (simp only [IntKind.wrap_i64, IntKind.wrap_u64, IntKind.wrap_u32]; omega)) | (refine And.intro ?_ ?_; focus (simp only [zl1, zl2, zl3, zl4, zl5, zl6, zl7, zl8, zl9] <;> omega)) | (refine Cnd.tt ?_ ?_; focus (first | (apply decide_eq_true; omega) | (simp only [zq1, zq2, zq3, zq4, zq5, zq6, zq7, zq8, zq9, zq10, zq11, zq12] <;> omega) | rfl)) | (refine Cnd.ff ?_ ?_; focus (first | (apply decide_eq_false; omega) | (simp only [zq1, zq2, zq3, zq4, zq5, zq6, zq7, zq8, zq9, zq10, zq11, zq12] <;> omega) | rfl))))
                  conv => whnf
                  (refine ⟨(fun s : Nat => n - s) ((i + 1)), [0], tmk 132 0 ((fun s : Nat => [(0, .v (.int .i64 n)), (1, .v (.int .i64 a)), (2, .v (.int .i64 b)), (11, .v (.bool true)), (12, .slc 0 13 0 n), (14, .v (.int .i64 10)), (15, .v (.int .i64 s))]) ((i + 1))), (fun s : Nat => [Ent.row true 30 ock ((fOps (dF a b 1 false y) n).map orow)]) ((i + 1)), ?_, ?_⟩; focus (first | (simp only []; omega) | omega))
                  repeat ((conv => whnf); (first | refine Cnd.yes ?_ | refine Cnd.no ?_ | refine And.intro rfl ?_ | refine And.intro (by omega) ?_ | (refine And.intro ?_ ?_; focus (simp only [IntKind.wrap_i64, IntKind.wrap_u64, IntKind.wrap_u32]; omega)) | (refine And.intro ?_ ?_; focus (simp only [zl1, zl2, zl3, zl4, zl5, zl6, zl7, zl8, zl9] <;> omega))))
                  conv => whnf
                  exact ⟨i + 1, hin, rfl, rfl, (tmkK_eq _ _ _ _).mpr rfl, rfl⟩
            · repeat ((conv => whnf); (first | refine Cnd.yes ?_ | refine Cnd.no ?_ | refine And.intro rfl ?_ | refine And.intro (by omega) ?_ | (refine And.intro ?_ ?_; focus (simp only [IntKind.wrap_i64, IntKind.wrap_u64, IntKind.wrap_u32]; omega)) | (refine And.intro ?_ ?_; focus (simp only [zl1, zl2, zl3, zl4, zl5, zl6, zl7, zl8, zl9] <;> omega)) | (refine Cnd.tt ?_ ?_; focus (first | (apply decide_eq_true; omega) | (simp only [zq1, zq2, zq3, zq4, zq5, zq6, zq7, zq8, zq9, zq10, zq11, zq12] <;> omega) | rfl)) | (refine Cnd.ff ?_ ?_; focus (first | (apply decide_eq_false; omega) | (simp only [zq1, zq2, zq3, zq4, zq5, zq6, zq7, zq8, zq9, zq10, zq11, zq12] <;> omega) | rfl))))
              conv => whnf
              refine ⟨true, 30, fOps (dF a b 1 false y) n, b, a, by rw [hl], rfl, by omega, dF_fit a b 1 n false y (by omega), dF_dep a b 1 n false hR2, ?_⟩
              rw [whyN_out (by omega)]
              repeat ((conv => whnf); (first | refine Cnd.yes ?_ | refine Cnd.no ?_ | refine And.intro rfl ?_ | refine And.intro (by omega) ?_ | (refine And.intro ?_ ?_; focus (simp only [IntKind.wrap_i64, IntKind.wrap_u64, IntKind.wrap_u32]; omega)) | (refine And.intro ?_ ?_; focus (simp only [zl1, zl2, zl3, zl4, zl5, zl6, zl7, zl8, zl9] <;> omega)) | (refine Cnd.tt ?_ ?_; focus (first | (apply decide_eq_true; omega) | (simp only [zq1, zq2, zq3, zq4, zq5, zq6, zq7, zq8, zq9, zq10, zq11, zq12] <;> omega) | rfl)) | (refine Cnd.ff ?_ ?_; focus (first | (apply decide_eq_false; omega) | (simp only [zq1, zq2, zq3, zq4, zq5, zq6, zq7, zq8, zq9, zq10, zq11, zq12] <;> omega) | rfl))))
              conv => whnf
              refine ⟨true, 30, fOps (dF a b 1 false y) n, a, a, by rw [hl], rfl, by omega, dF_fit a b 1 n false y (by omega), dF_dep a b 1 n false hR2, ?_⟩
              rw [whyN_out (by omega)]
              repeat ((conv => whnf); (first | refine Cnd.yes ?_ | refine Cnd.no ?_ | refine And.intro rfl ?_ | refine And.intro (by omega) ?_ | (refine And.intro ?_ ?_; focus (simp only [IntKind.wrap_i64, IntKind.wrap_u64, IntKind.wrap_u32]; omega)) | (refine And.intro ?_ ?_; focus (simp only [zl1, zl2, zl3, zl4, zl5, zl6, zl7, zl8, zl9] <;> omega)) | (refine Cnd.tt ?_ ?_; focus (first | (apply decide_eq_true; omega) | (simp only [zq1, zq2, zq3, zq4, zq5, zq6, zq7, zq8, zq9, zq10, zq11, zq12] <;> omega) | rfl)) | (refine Cnd.ff ?_ ?_; focus (first | (apply decide_eq_false; omega) | (simp only [zq1, zq2, zq3, zq4, zq5, zq6, zq7, zq8, zq9, zq10, zq11, zq12] <;> omega) | rfl))))
              conv => whnf
              refine ⟨true, 30, fOps (dF a b 1 false y) n, -1, b, by rw [hl], rfl, by omega, dF_fit a b 1 n false y (by omega), dF_dep a b 1 n false hR2, ?_⟩
              rw [whyN_out (by omega)]
              repeat ((conv => whnf); (first | refine Cnd.yes ?_ | refine Cnd.no ?_ | refine And.intro rfl ?_ | refine And.intro (by omega) ?_ | (refine And.intro ?_ ?_; focus (simp only [IntKind.wrap_i64, IntKind.wrap_u64, IntKind.wrap_u32]; omega)) | (refine And.intro ?_ ?_; focus (simp only [zl1, zl2, zl3, zl4, zl5, zl6, zl7, zl8, zl9] <;> omega)) | (refine Cnd.tt ?_ ?_; focus (first | (apply decide_eq_true; omega) | (simp only [zq1, zq2, zq3, zq4, zq5, zq6, zq7, zq8, zq9, zq10, zq11, zq12] <;> omega) | rfl)) | (refine Cnd.ff ?_ ?_; focus (first | (apply decide_eq_false; omega) | (simp only [zq1, zq2, zq3, zq4, zq5, zq6, zq7, zq8, zq9, zq10, zq11, zq12] <;> omega) | rfl))))
              conv => whnf
              refine ⟨true, 30, fOps (dF a b 1 false y) n, a, n, by rw [hl], rfl, by omega, dF_fit a b 1 n false y (by omega), dF_dep a b 1 n false hR2, ?_⟩
              rw [whyN_out (by omega)]
              repeat ((conv => whnf); (first | refine Cnd.yes ?_ | refine Cnd.no ?_ | refine And.intro rfl ?_ | refine And.intro (by omega) ?_ | (refine And.intro ?_ ?_; focus (simp only [IntKind.wrap_i64, IntKind.wrap_u64, IntKind.wrap_u32]; omega)) | (refine And.intro ?_ ?_; focus (simp only [zl1, zl2, zl3, zl4, zl5, zl6, zl7, zl8, zl9] <;> omega)) | (refine Cnd.tt ?_ ?_; focus (first | (apply decide_eq_true; omega) | (simp only [zq1, zq2, zq3, zq4, zq5, zq6, zq7, zq8, zq9, zq10, zq11, zq12] <;> omega) | rfl)) | (refine Cnd.ff ?_ ?_; focus (first | (apply decide_eq_false; omega) | (simp only [zq1, zq2, zq3, zq4, zq5, zq6, zq7, zq8, zq9, zq10, zq11, zq12] <;> omega) | rfl))))
              conv => whnf
              exact hK _ _
        · repeat ((conv => whnf); (first | refine Cnd.yes ?_ | refine Cnd.no ?_ | refine And.intro rfl ?_ | refine And.intro (by omega) ?_ | (refine And.intro ?_ ?_; focus (simp only [IntKind.wrap_i64, IntKind.wrap_u64, IntKind.wrap_u32]; omega)) | (refine And.intro ?_ ?_; focus (simp only [zl1, zl2, zl3, zl4, zl5, zl6, zl7, zl8, zl9] <;> omega)) | (refine Cnd.tt ?_ ?_; focus (first | (apply decide_eq_true; omega) | (simp only [zq1, zq2, zq3, zq4, zq5, zq6, zq7, zq8, zq9, zq10, zq11, zq12] <;> omega) | rfl)) | (refine Cnd.ff ?_ ?_; focus (first | (apply decide_eq_false; omega) | (simp only [zq1, zq2, zq3, zq4, zq5, zq6, zq7, zq8, zq9, zq10, zq11, zq12] <;> omega) | rfl))))
          conv => whnf
          intro y M2 hM2 hR2
          replace hR2 : Vc.RowsIn M2 3 [.int .i64] y [[Value.int .i64 a]] := hR2
          repeat ((conv => whnf); (first | refine Cnd.yes ?_ | refine Cnd.no ?_ | refine And.intro rfl ?_ | refine And.intro (by omega) ?_ | (refine And.intro ?_ ?_; focus (simp only [IntKind.wrap_i64, IntKind.wrap_u64, IntKind.wrap_u32]; omega)) | (refine And.intro ?_ ?_; focus (simp only [zl1, zl2, zl3, zl4, zl5, zl6, zl7, zl8, zl9] <;> omega)) | (refine Cnd.tt ?_ ?_; focus (first | (apply decide_eq_true; omega) | (simp only [zq1, zq2, zq3, zq4, zq5, zq6, zq7, zq8, zq9, zq10, zq11, zq12] <;> omega) | rfl)) | (refine Cnd.ff ?_ ?_; focus (first | (apply decide_eq_false; omega) | (simp only [zq1, zq2, zq3, zq4, zq5, zq6, zq7, zq8, zq9, zq10, zq11, zq12] <;> omega) | rfl))))
          conv => whnf
          rw [f1_false b n, rowsC a false y hbn]
          have hl := fOps_len (dF a b 2 false y) n
          refine ⟨InvS 132 (fun s : Nat => n - s) (fun s : Nat => s ≤ n) (fun s : Nat => [(0, .v (.int .i64 n)), (1, .v (.int .i64 a)), (2, .v (.int .i64 b)), (11, .v (.bool true)), (12, .slc 0 13 0 n), (14, .v (.int .i64 0)), (15, .v (.int .i64 s))]) (fun s : Nat => [Ent.row true 30 ock ((fOps (dF a b 2 false y) n).map orow)]) M2, ⟨(fun s : Nat => n - s) 0, [0], tmk 132 0 ((fun s : Nat => [(0, .v (.int .i64 n)), (1, .v (.int .i64 a)), (2, .v (.int .i64 b)), (11, .v (.bool true)), (12, .slc 0 13 0 n), (14, .v (.int .i64 0)), (15, .v (.int .i64 s))]) 0), (fun s : Nat => [Ent.row true 30 ock ((fOps (dF a b 2 false y) n).map orow)]) 0, ?_⟩, ?_⟩
          · repeat ((conv => whnf); (first | refine Cnd.yes ?_ | refine Cnd.no ?_ | refine And.intro rfl ?_ | refine And.intro (by omega) ?_ | (refine And.intro ?_ ?_; focus (simp only [IntKind.wrap_i64, IntKind.wrap_u64, IntKind.wrap_u32]; omega)) | (refine And.intro ?_ ?_; focus (simp only [zl1, zl2, zl3, zl4, zl5, zl6, zl7, zl8, zl9] <;> omega))))
            conv => whnf
            exact ⟨0, Nat.zero_le _, rfl, rfl, (tmkK_eq _ _ _ _).mpr rfl, rfl⟩
          · rintro cnt tm hp M1 ⟨i, hC_, rfl, rfl, htm, hhp_⟩
            replace hC_ : i ≤ n := hC_
            have hi2 := hC_
            replace htm : tmkK 132 0 [(0, .v (.int .i64 n)), (1, .v (.int .i64 a)), (2, .v (.int .i64 b)), (11, .v (.bool true)), (12, .slc 0 13 0 n), (14, .v (.int .i64 0)), (15, .v (.int .i64 i))] (fun l => tm = l) := htm
            conv at htm => whnf
            subst htm
            replace hhp_ : hp = [Ent.row true 30 ock ((fOps (dF a b 2 false y) n).map orow)] := hhp_
            subst hhp_
            repeat ((conv => whnf); (first | refine Cnd.yes ?_ | refine Cnd.no ?_ | refine And.intro rfl ?_ | refine And.intro (by omega) ?_ | (refine And.intro ?_ ?_; focus (simp only [IntKind.wrap_i64, IntKind.wrap_u64, IntKind.wrap_u32]; omega)) | (refine And.intro ?_ ?_; focus (simp only [zl1, zl2, zl3, zl4, zl5, zl6, zl7, zl8, zl9] <;> omega)) | (refine Cnd.tt ?_ ?_; focus (first | (apply decide_eq_true; omega) | (simp only [zq1, zq2, zq3, zq4, zq5, zq6, zq7, zq8, zq9, zq10, zq11, zq12] <;> omega) | rfl)) | (refine Cnd.ff ?_ ?_; focus (first | (apply decide_eq_false; omega) | (simp only [zq1, zq2, zq3, zq4, zq5, zq6, zq7, zq8, zq9, zq10, zq11, zq12] <;> omega) | rfl))))
            conv => whnf
            refine Cnd.mk (fun hlt => ?_) fun hge2 => ?_
            · have hin : i < n := by have := of_decide_eq_true hlt; omega
              have e5 : IntKind.i64.wrap ((i : Int) + 1) = ((i + 1 : Nat) : Int) := by rw [IntKind.wrap_i64]; omega
              repeat ((conv => whnf); (first | refine Cnd.yes ?_ | refine Cnd.no ?_ | refine And.intro rfl ?_ | refine And.intro (by omega) ?_ | (refine And.intro ?_ ?_; focus (simp only [IntKind.wrap_i64, IntKind.wrap_u64, IntKind.wrap_u32]; omega)) | (refine And.intro ?_ ?_; focus (simp only [zl1, zl2, zl3, zl4, zl5, zl6, zl7, zl8, zl9] <;> omega)) | (refine Cnd.tt ?_ ?_; focus (first | (apply decide_eq_true; omega) | (simp only [zq1, zq2, zq3, zq4, zq5, zq6, zq7, zq8, zq9, zq10, zq11, zq12] <;> omega) | rfl)) | (refine Cnd.ff ?_ ?_; focus (first | (apply decide_eq_false; omega) | (simp only [zq1, zq2, zq3, zq4, zq5, zq6, zq7, zq8, zq9, zq10, zq11, zq12] <;> omega) | rfl))))
              conv => whnf
              rw [e5]
              refine ⟨InvS 132 (fun s : Nat => n - s) (fun s : Nat => i + 1 ≤ s ∧ s ≤ n) (fun s : Nat => [(0, .v (.int .i64 n)), (1, .v (.int .i64 a)), (2, .v (.int .i64 b)), (11, .v (.bool true)), (12, .slc 0 13 0 n), (14, .v (.int .i64 0)), (15, .v (.int .i64 i)), (16, .v (.int .i64 s))]) (fun s : Nat => [Ent.row true 30 ock ((fOps (dF a b 2 false y) n).map orow)]) M1, ⟨(fun s : Nat => n - s) (i + 1), [0], tmk 132 0 ((fun s : Nat => [(0, .v (.int .i64 n)), (1, .v (.int .i64 a)), (2, .v (.int .i64 b)), (11, .v (.bool true)), (12, .slc 0 13 0 n), (14, .v (.int .i64 0)), (15, .v (.int .i64 i)), (16, .v (.int .i64 s))]) (i + 1)), (fun s : Nat => [Ent.row true 30 ock ((fOps (dF a b 2 false y) n).map orow)]) (i + 1), ?_⟩, ?_⟩
              · repeat ((conv => whnf); (first | refine Cnd.yes ?_ | refine Cnd.no ?_ | refine And.intro rfl ?_ | refine And.intro (by omega) ?_ | (refine And.intro ?_ ?_; focus (simp only [IntKind.wrap_i64, IntKind.wrap_u64, IntKind.wrap_u32]; omega)) | (refine And.intro ?_ ?_; focus (simp only [zl1, zl2, zl3, zl4, zl5, zl6, zl7, zl8, zl9] <;> omega))))
                conv => whnf
                exact ⟨i + 1, ⟨Nat.le_refl _, hin⟩, rfl, rfl, (tmkK_eq _ _ _ _).mpr rfl, rfl⟩
              · rintro cnt tm hp M1 ⟨k, hC_, rfl, rfl, htm, hhp_⟩
                replace hC_ : i + 1 ≤ k ∧ k ≤ n := hC_
                obtain ⟨hk1,hk2⟩ := hC_
                replace htm : tmkK 132 0 [(0, .v (.int .i64 n)), (1, .v (.int .i64 a)), (2, .v (.int .i64 b)), (11, .v (.bool true)), (12, .slc 0 13 0 n), (14, .v (.int .i64 0)), (15, .v (.int .i64 i)), (16, .v (.int .i64 k))] (fun l => tm = l) := htm
                conv at htm => whnf
                subst htm
                replace hhp_ : hp = [Ent.row true 30 ock ((fOps (dF a b 2 false y) n).map orow)] := hhp_
                subst hhp_
                repeat ((conv => whnf); (first | refine Cnd.yes ?_ | refine Cnd.no ?_ | refine And.intro rfl ?_ | refine And.intro (by omega) ?_ | (refine And.intro ?_ ?_; focus (simp only [IntKind.wrap_i64, IntKind.wrap_u64, IntKind.wrap_u32]; omega)) | (refine And.intro ?_ ?_; focus (simp only [zl1, zl2, zl3, zl4, zl5, zl6, zl7, zl8, zl9] <;> omega)) | (refine Cnd.tt ?_ ?_; focus (first | (apply decide_eq_true; omega) | (simp only [zq1, zq2, zq3, zq4, zq5, zq6, zq7, zq8, zq9, zq10, zq11, zq12] <;> omega) | rfl)) | (refine Cnd.ff ?_ ?_; focus (first | (apply decide_eq_false; omega) | (simp only [zq1, zq2, zq3, zq4, zq5, zq6, zq7, zq8, zq9, zq10, zq11, zq12] <;> omega) | rfl))))
                conv => whnf
                refine Cnd.mk (fun hlt2 => ?_) fun hge3 => ?_
                · have hkn : k < n := by have := of_decide_eq_true hlt2; omega
                  have hw := dF_why a b 2 n false y (show i < k by omega) hkn
                  by_cases q1 : i = a
                  · by_cases q2 : k = b
                    · rw [if_pos ⟨q1, q2⟩] at hw
                      repeat ((conv => whnf); (first | refine Cnd.yes ?_ | refine Cnd.no ?_ | refine And.intro rfl ?_ | refine And.intro (by omega) ?_ | (refine And.intro ?_ ?_; focus (simp only [IntKind.wrap_i64, IntKind.wrap_u64, IntKind.wrap_u32]; omega)) | (refine And.intro ?_ ?_; focus (simp only [zl1, zl2, zl3, zl4, zl5, zl6, zl7, zl8, zl9] <;> omega)) | (refine Cnd.tt ?_ ?_; focus (first | (apply decide_eq_true; omega) | (simp only [zq1, zq2, zq3, zq4, zq5, zq6, zq7, zq8, zq9, zq10, zq11, zq12] <;> omega) | rfl)) | (refine Cnd.ff ?_ ?_; focus (first | (apply decide_eq_false; omega) | (simp only [zq1, zq2, zq3, zq4, zq5, zq6, zq7, zq8, zq9, zq10, zq11, zq12] <;> omega) | rfl))))
                      conv => whnf
                      refine ⟨true, 30, fOps (dF a b 2 false y) n, i, k, by rw [hl], rfl, by omega, dF_fit a b 2 n false y (by omega), dF_dep a b 2 n false hR2, ?_⟩
                      rw [hw, show wantD 2 false = 0 from rfl]
                      repeat ((conv => whnf); (first | refine Cnd.yes ?_ | refine Cnd.no ?_ | refine And.intro rfl ?_ | refine And.intro (by omega) ?_ | (refine And.intro ?_ ?_; focus (simp only [IntKind.wrap_i64, IntKind.wrap_u64, IntKind.wrap_u32]; omega)) | (refine And.intro ?_ ?_; focus (simp only [zl1, zl2, zl3, zl4, zl5, zl6, zl7, zl8, zl9] <;> omega)) | (refine Cnd.tt ?_ ?_; focus (first | (apply decide_eq_true; omega) | (simp only [zq1, zq2, zq3, zq4, zq5, zq6, zq7, zq8, zq9, zq10, zq11, zq12] <;> omega) | rfl)) | (refine Cnd.ff ?_ ?_; focus (first | (apply decide_eq_false; omega) | (simp only [zq1, zq2, zq3, zq4, zq5, zq6, zq7, zq8, zq9, zq10, zq11, zq12] <;> omega) | rfl))))
                      conv => whnf
                      (refine ⟨(fun s : Nat => n - s) (k + 1), [0], tmk 132 0 ((fun s : Nat => [(0, .v (.int .i64 n)), (1, .v (.int .i64 a)), (2, .v (.int .i64 b)), (11, .v (.bool true)), (12, .slc 0 13 0 n), (14, .v (.int .i64 0)), (15, .v (.int .i64 i)), (16, .v (.int .i64 s))]) (k + 1)), (fun s : Nat => [Ent.row true 30 ock ((fOps (dF a b 2 false y) n).map orow)]) (k + 1), ?_, ?_⟩; focus (first | (simp only []; omega) | omega))
                      repeat ((conv => whnf); (first | refine Cnd.yes ?_ | refine Cnd.no ?_ | refine And.intro rfl ?_ | refine And.intro (by omega) ?_ | (refine And.intro ?_ ?_; focus (simp only [IntKind.wrap_i64, IntKind.wrap_u64, IntKind.wrap_u32]; omega)) | (refine And.intro ?_ ?_; focus (simp only [zl1, zl2, zl3, zl4, zl5, zl6, zl7, zl8, zl9] <;> omega))))
                      conv => whnf
                      exact ⟨k + 1, ⟨by omega, hkn⟩, rfl, rfl, (tmkK_eq _ _ _ _).mpr rfl, rfl⟩
                    · rw [if_neg (fun h => q2 h.2)] at hw
                      repeat ((conv => whnf); (first | refine Cnd.yes ?_ | refine Cnd.no ?_ | refine And.intro rfl ?_ | refine And.intro (by omega) ?_ | (refine And.intro ?_ ?_; focus (simp only [IntKind.wrap_i64, IntKind.wrap_u64, IntKind.wrap_u32]; omega)) | (refine And.intro ?_ ?_; focus (simp only [zl1, zl2, zl3, zl4, zl5, zl6, zl7, zl8, zl9] <;> omega)) | (refine Cnd.tt ?_ ?_; focus (first | (apply decide_eq_true; omega) | (simp only [zq1, zq2, zq3, zq4, zq5, zq6, zq7, zq8, zq9, zq10, zq11, zq12] <;> omega) | rfl)) | (refine Cnd.ff ?_ ?_; focus (first | (apply decide_eq_false; omega) | (simp only [zq1, zq2, zq3, zq4, zq5, zq6, zq7, zq8, zq9, zq10, zq11, zq12] <;> omega) | rfl))))
                      conv => whnf
                      refine ⟨true, 30, fOps (dF a b 2 false y) n, i, k, by rw [hl], rfl, by omega, dF_fit a b 2 n false y (by omega), dF_dep a b 2 n false hR2, ?_⟩
                      rw [hw]
                      repeat ((conv => whnf); (first | refine Cnd.yes ?_ | refine Cnd.no ?_ | refine And.intro rfl ?_ | refine And.intro (by omega) ?_ | (refine And.intro ?_ ?_; focus (simp only [IntKind.wrap_i64, IntKind.wrap_u64, IntKind.wrap_u32]; omega)) | (refine And.intro ?_ ?_; focus (simp only [zl1, zl2, zl3, zl4, zl5, zl6, zl7, zl8, zl9] <;> omega)) | (refine Cnd.tt ?_ ?_; focus (first | (apply decide_eq_true; omega) | (simp only [zq1, zq2, zq3, zq4, zq5, zq6, zq7, zq8, zq9, zq10, zq11, zq12] <;> omega) | rfl)) | (refine Cnd.ff ?_ ?_; focus (first | (apply decide_eq_false; omega) | (simp only [zq1, zq2, zq3, zq4, zq5, zq6, zq7, zq8, zq9, zq10, zq11, zq12] <;> omega) | rfl))))
                      conv => whnf
                      (refine ⟨(fun s : Nat => n - s) (k + 1), [0], tmk 132 0 ((fun s : Nat => [(0, .v (.int .i64 n)), (1, .v (.int .i64 a)), (2, .v (.int .i64 b)), (11, .v (.bool true)), (12, .slc 0 13 0 n), (14, .v (.int .i64 0)), (15, .v (.int .i64 i)), (16, .v (.int .i64 s))]) (k + 1)), (fun s : Nat => [Ent.row true 30 ock ((fOps (dF a b 2 false y) n).map orow)]) (k + 1), ?_, ?_⟩; focus (first | (simp only []; omega) | omega))
                      repeat ((conv => whnf); (first | refine Cnd.yes ?_ | refine Cnd.no ?_ | refine And.intro rfl ?_ | refine And.intro (by omega) ?_ | (refine And.intro ?_ ?_; focus (simp only [IntKind.wrap_i64, IntKind.wrap_u64, IntKind.wrap_u32]; omega)) | (refine And.intro ?_ ?_; focus (simp only [zl1, zl2, zl3, zl4, zl5, zl6, zl7, zl8, zl9] <;> omega))))
                      conv => whnf
                      exact ⟨k + 1, ⟨by omega, hkn⟩, rfl, rfl, (tmkK_eq _ _ _ _).mpr rfl, rfl⟩
                  · rw [if_neg (fun h => q1 h.1)] at hw
                    repeat ((conv => whnf); (first | refine Cnd.yes ?_ | refine Cnd.no ?_ | refine And.intro rfl ?_ | refine And.intro (by omega) ?_ | (refine And.intro ?_ ?_; focus (simp only [IntKind.wrap_i64, IntKind.wrap_u64, IntKind.wrap_u32]; omega)) | (refine And.intro ?_ ?_; focus (simp only [zl1, zl2, zl3, zl4, zl5, zl6, zl7, zl8, zl9] <;> omega)) | (refine Cnd.tt ?_ ?_; focus (first | (apply decide_eq_true; omega) | (simp only [zq1, zq2, zq3, zq4, zq5, zq6, zq7, zq8, zq9, zq10, zq11, zq12] <;> omega) | rfl)) | (refine Cnd.ff ?_ ?_; focus (first | (apply decide_eq_false; omega) | (simp only [zq1, zq2, zq3, zq4, zq5, zq6, zq7, zq8, zq9, zq10, zq11, zq12] <;> omega) | rfl))))
                    conv => whnf
                    refine ⟨true, 30, fOps (dF a b 2 false y) n, i, k, by rw [hl], rfl, by omega, dF_fit a b 2 n false y (by omega), dF_dep a b 2 n false hR2, ?_⟩
                    rw [hw]
                    repeat ((conv => whnf); (first | refine Cnd.yes ?_ | refine Cnd.no ?_ | refine And.intro rfl ?_ | refine And.intro (by omega) ?_ | (refine And.intro ?_ ?_; focus (simp only [IntKind.wrap_i64, IntKind.wrap_u64, IntKind.wrap_u32]; omega)) | (refine And.intro ?_ ?_; focus (simp only [zl1, zl2, zl3, zl4, zl5, zl6, zl7, zl8, zl9] <;> omega)) | (refine Cnd.tt ?_ ?_; focus (first | (apply decide_eq_true; omega) | (simp only [zq1, zq2, zq3, zq4, zq5, zq6, zq7, zq8, zq9, zq10, zq11, zq12] <;> omega) | rfl)) | (refine Cnd.ff ?_ ?_; focus (first | (apply decide_eq_false; omega) | (simp only [zq1, zq2, zq3, zq4, zq5, zq6, zq7, zq8, zq9, zq10, zq11, zq12] <;> omega) | rfl))))
                    conv => whnf
                    (refine ⟨(fun s : Nat => n - s) (k + 1), [0], tmk 132 0 ((fun s : Nat => [(0, .v (.int .i64 n)), (1, .v (.int .i64 a)), (2, .v (.int .i64 b)), (11, .v (.bool true)), (12, .slc 0 13 0 n), (14, .v (.int .i64 0)), (15, .v (.int .i64 i)), (16, .v (.int .i64 s))]) (k + 1)), (fun s : Nat => [Ent.row true 30 ock ((fOps (dF a b 2 false y) n).map orow)]) (k + 1), ?_, ?_⟩; focus (first | (simp only []; omega) | omega))
                    repeat ((conv => whnf); (first | refine Cnd.yes ?_ | refine Cnd.no ?_ | refine And.intro rfl ?_ | refine And.intro (by omega) ?_ | (refine And.intro ?_ ?_; focus (simp only [IntKind.wrap_i64, IntKind.wrap_u64, IntKind.wrap_u32]; omega)) | (refine And.intro ?_ ?_; focus (simp only [zl1, zl2, zl3, zl4, zl5, zl6, zl7, zl8, zl9] <;> omega))))
                    conv => whnf
                    exact ⟨k + 1, ⟨by omega, hkn⟩, rfl, rfl, (tmkK_eq _ _ _ _).mpr rfl, rfl⟩
                · repeat ((conv => whnf); (first | refine Cnd.yes ?_ | refine Cnd.no ?_ | refine And.intro rfl ?_ | refine And.intro (by omega) ?_ | (refine And.intro ?_ ?_; focus (simp only [IntKind.wrap_i64, IntKind.wrap_u64, IntKind.wrap_u32]; omega)) | (refine And.intro ?_ ?_; focus (simp only [zl1, zl2, zl3, zl4, zl5, zl6, zl7, zl8, zl9] <;> omega)) | (refine Cnd.tt ?_ ?_; focus (first | (apply decide_eq_true; omega) | (simp only [zq1, zq2, zq3, zq4, zq5, zq6, zq7, zq8, zq9, zq10, zq11, zq12] <;> omega) | rfl)) | (refine Cnd.ff ?_ ?_; focus (first | (apply decide_eq_false; omega) | (simp only [zq1, zq2, zq3, zq4, zq5, zq6, zq7, zq8, zq9, zq10, zq11, zq12] <;> omega) | rfl))))
                  conv => whnf
                  (refine ⟨(fun s : Nat => n - s) ((i + 1)), [0], tmk 132 0 ((fun s : Nat => [(0, .v (.int .i64 n)), (1, .v (.int .i64 a)), (2, .v (.int .i64 b)), (11, .v (.bool true)), (12, .slc 0 13 0 n), (14, .v (.int .i64 0)), (15, .v (.int .i64 s))]) ((i + 1))), (fun s : Nat => [Ent.row true 30 ock ((fOps (dF a b 2 false y) n).map orow)]) ((i + 1)), ?_, ?_⟩; focus (first | (simp only []; omega) | omega))
                  repeat ((conv => whnf); (first | refine Cnd.yes ?_ | refine Cnd.no ?_ | refine And.intro rfl ?_ | refine And.intro (by omega) ?_ | (refine And.intro ?_ ?_; focus (simp only [IntKind.wrap_i64, IntKind.wrap_u64, IntKind.wrap_u32]; omega)) | (refine And.intro ?_ ?_; focus (simp only [zl1, zl2, zl3, zl4, zl5, zl6, zl7, zl8, zl9] <;> omega))))
                  conv => whnf
                  exact ⟨i + 1, hin, rfl, rfl, (tmkK_eq _ _ _ _).mpr rfl, rfl⟩
            · repeat ((conv => whnf); (first | refine Cnd.yes ?_ | refine Cnd.no ?_ | refine And.intro rfl ?_ | refine And.intro (by omega) ?_ | (refine And.intro ?_ ?_; focus (simp only [IntKind.wrap_i64, IntKind.wrap_u64, IntKind.wrap_u32]; omega)) | (refine And.intro ?_ ?_; focus (simp only [zl1, zl2, zl3, zl4, zl5, zl6, zl7, zl8, zl9] <;> omega)) | (refine Cnd.tt ?_ ?_; focus (first | (apply decide_eq_true; omega) | (simp only [zq1, zq2, zq3, zq4, zq5, zq6, zq7, zq8, zq9, zq10, zq11, zq12] <;> omega) | rfl)) | (refine Cnd.ff ?_ ?_; focus (first | (apply decide_eq_false; omega) | (simp only [zq1, zq2, zq3, zq4, zq5, zq6, zq7, zq8, zq9, zq10, zq11, zq12] <;> omega) | rfl))))
              conv => whnf
              refine ⟨true, 30, fOps (dF a b 2 false y) n, b, a, by rw [hl], rfl, by omega, dF_fit a b 2 n false y (by omega), dF_dep a b 2 n false hR2, ?_⟩
              rw [whyN_out (by omega)]
              repeat ((conv => whnf); (first | refine Cnd.yes ?_ | refine Cnd.no ?_ | refine And.intro rfl ?_ | refine And.intro (by omega) ?_ | (refine And.intro ?_ ?_; focus (simp only [IntKind.wrap_i64, IntKind.wrap_u64, IntKind.wrap_u32]; omega)) | (refine And.intro ?_ ?_; focus (simp only [zl1, zl2, zl3, zl4, zl5, zl6, zl7, zl8, zl9] <;> omega)) | (refine Cnd.tt ?_ ?_; focus (first | (apply decide_eq_true; omega) | (simp only [zq1, zq2, zq3, zq4, zq5, zq6, zq7, zq8, zq9, zq10, zq11, zq12] <;> omega) | rfl)) | (refine Cnd.ff ?_ ?_; focus (first | (apply decide_eq_false; omega) | (simp only [zq1, zq2, zq3, zq4, zq5, zq6, zq7, zq8, zq9, zq10, zq11, zq12] <;> omega) | rfl))))
              conv => whnf
              refine ⟨true, 30, fOps (dF a b 2 false y) n, a, a, by rw [hl], rfl, by omega, dF_fit a b 2 n false y (by omega), dF_dep a b 2 n false hR2, ?_⟩
              rw [whyN_out (by omega)]
              repeat ((conv => whnf); (first | refine Cnd.yes ?_ | refine Cnd.no ?_ | refine And.intro rfl ?_ | refine And.intro (by omega) ?_ | (refine And.intro ?_ ?_; focus (simp only [IntKind.wrap_i64, IntKind.wrap_u64, IntKind.wrap_u32]; omega)) | (refine And.intro ?_ ?_; focus (simp only [zl1, zl2, zl3, zl4, zl5, zl6, zl7, zl8, zl9] <;> omega)) | (refine Cnd.tt ?_ ?_; focus (first | (apply decide_eq_true; omega) | (simp only [zq1, zq2, zq3, zq4, zq5, zq6, zq7, zq8, zq9, zq10, zq11, zq12] <;> omega) | rfl)) | (refine Cnd.ff ?_ ?_; focus (first | (apply decide_eq_false; omega) | (simp only [zq1, zq2, zq3, zq4, zq5, zq6, zq7, zq8, zq9, zq10, zq11, zq12] <;> omega) | rfl))))
              conv => whnf
              refine ⟨true, 30, fOps (dF a b 2 false y) n, -1, b, by rw [hl], rfl, by omega, dF_fit a b 2 n false y (by omega), dF_dep a b 2 n false hR2, ?_⟩
              rw [whyN_out (by omega)]
              repeat ((conv => whnf); (first | refine Cnd.yes ?_ | refine Cnd.no ?_ | refine And.intro rfl ?_ | refine And.intro (by omega) ?_ | (refine And.intro ?_ ?_; focus (simp only [IntKind.wrap_i64, IntKind.wrap_u64, IntKind.wrap_u32]; omega)) | (refine And.intro ?_ ?_; focus (simp only [zl1, zl2, zl3, zl4, zl5, zl6, zl7, zl8, zl9] <;> omega)) | (refine Cnd.tt ?_ ?_; focus (first | (apply decide_eq_true; omega) | (simp only [zq1, zq2, zq3, zq4, zq5, zq6, zq7, zq8, zq9, zq10, zq11, zq12] <;> omega) | rfl)) | (refine Cnd.ff ?_ ?_; focus (first | (apply decide_eq_false; omega) | (simp only [zq1, zq2, zq3, zq4, zq5, zq6, zq7, zq8, zq9, zq10, zq11, zq12] <;> omega) | rfl))))
              conv => whnf
              refine ⟨true, 30, fOps (dF a b 2 false y) n, a, n, by rw [hl], rfl, by omega, dF_fit a b 2 n false y (by omega), dF_dep a b 2 n false hR2, ?_⟩
              rw [whyN_out (by omega)]
              repeat ((conv => whnf); (first | refine Cnd.yes ?_ | refine Cnd.no ?_ | refine And.intro rfl ?_ | refine And.intro (by omega) ?_ | (refine And.intro ?_ ?_; focus (simp only [IntKind.wrap_i64, IntKind.wrap_u64, IntKind.wrap_u32]; omega)) | (refine And.intro ?_ ?_; focus (simp only [zl1, zl2, zl3, zl4, zl5, zl6, zl7, zl8, zl9] <;> omega)) | (refine Cnd.tt ?_ ?_; focus (first | (apply decide_eq_true; omega) | (simp only [zq1, zq2, zq3, zq4, zq5, zq6, zq7, zq8, zq9, zq10, zq11, zq12] <;> omega) | rfl)) | (refine Cnd.ff ?_ ?_; focus (first | (apply decide_eq_false; omega) | (simp only [zq1, zq2, zq3, zq4, zq5, zq6, zq7, zq8, zq9, zq10, zq11, zq12] <;> omega) | rfl))))
              conv => whnf
              exact hK _ _
        · repeat ((conv => whnf); (first | refine Cnd.yes ?_ | refine Cnd.no ?_ | refine And.intro rfl ?_ | refine And.intro (by omega) ?_ | (refine And.intro ?_ ?_; focus (simp only [IntKind.wrap_i64, IntKind.wrap_u64, IntKind.wrap_u32]; omega)) | (refine And.intro ?_ ?_; focus (simp only [zl1, zl2, zl3, zl4, zl5, zl6, zl7, zl8, zl9] <;> omega)) | (refine Cnd.tt ?_ ?_; focus (first | (apply decide_eq_true; omega) | (simp only [zq1, zq2, zq3, zq4, zq5, zq6, zq7, zq8, zq9, zq10, zq11, zq12] <;> omega) | rfl)) | (refine Cnd.ff ?_ ?_; focus (first | (apply decide_eq_false; omega) | (simp only [zq1, zq2, zq3, zq4, zq5, zq6, zq7, zq8, zq9, zq10, zq11, zq12] <;> omega) | rfl))))
          conv => whnf
          rw [f1_false b n, rows3 a false nilV]
          have hl := fOps_len (dF a b 3 false nilV) n
          refine ⟨InvS 132 (fun s : Nat => n - s) (fun s : Nat => s ≤ n) (fun s : Nat => [(0, .v (.int .i64 n)), (1, .v (.int .i64 a)), (2, .v (.int .i64 b)), (11, .v (.bool true)), (12, .slc 0 13 0 n), (14, .v (.int .i64 0)), (15, .v (.int .i64 s))]) (fun s : Nat => [Ent.row true 30 ock ((fOps (dF a b 3 false nilV) n).map orow)]) M1, ⟨(fun s : Nat => n - s) 0, [0], tmk 132 0 ((fun s : Nat => [(0, .v (.int .i64 n)), (1, .v (.int .i64 a)), (2, .v (.int .i64 b)), (11, .v (.bool true)), (12, .slc 0 13 0 n), (14, .v (.int .i64 0)), (15, .v (.int .i64 s))]) 0), (fun s : Nat => [Ent.row true 30 ock ((fOps (dF a b 3 false nilV) n).map orow)]) 0, ?_⟩, ?_⟩
          · repeat ((conv => whnf); (first | refine Cnd.yes ?_ | refine Cnd.no ?_ | refine And.intro rfl ?_ | refine And.intro (by omega) ?_ | (refine And.intro ?_ ?_; focus (simp only [IntKind.wrap_i64, IntKind.wrap_u64, IntKind.wrap_u32]; omega)) | (refine And.intro ?_ ?_; focus (simp only [zl1, zl2, zl3, zl4, zl5, zl6, zl7, zl8, zl9] <;> omega))))
            conv => whnf
            exact ⟨0, Nat.zero_le _, rfl, rfl, (tmkK_eq _ _ _ _).mpr rfl, rfl⟩
          · rintro cnt tm hp M1 ⟨i, hC_, rfl, rfl, htm, hhp_⟩
            replace hC_ : i ≤ n := hC_
            have hi2 := hC_
            replace htm : tmkK 132 0 [(0, .v (.int .i64 n)), (1, .v (.int .i64 a)), (2, .v (.int .i64 b)), (11, .v (.bool true)), (12, .slc 0 13 0 n), (14, .v (.int .i64 0)), (15, .v (.int .i64 i))] (fun l => tm = l) := htm
            conv at htm => whnf
            subst htm
            replace hhp_ : hp = [Ent.row true 30 ock ((fOps (dF a b 3 false nilV) n).map orow)] := hhp_
            subst hhp_
            repeat ((conv => whnf); (first | refine Cnd.yes ?_ | refine Cnd.no ?_ | refine And.intro rfl ?_ | refine And.intro (by omega) ?_ | (refine And.intro ?_ ?_; focus (simp only [IntKind.wrap_i64, IntKind.wrap_u64, IntKind.wrap_u32]; omega)) | (refine And.intro ?_ ?_; focus (simp only [zl1, zl2, zl3, zl4, zl5, zl6, zl7, zl8, zl9] <;> omega)) | (refine Cnd.tt ?_ ?_; focus (first | (apply decide_eq_true; omega) | (simp only [zq1, zq2, zq3, zq4, zq5, zq6, zq7, zq8, zq9, zq10, zq11, zq12] <;> omega) | rfl)) | (refine Cnd.ff ?_ ?_; focus (first | (apply decide_eq_false; omega) | (simp only [zq1, zq2, zq3, zq4, zq5, zq6, zq7, zq8, zq9, zq10, zq11, zq12] <;> omega) | rfl))))
            conv => whnf
            refine Cnd.mk (fun hlt => ?_) fun hge2 => ?_
            · have hin : i < n := by have := of_decide_eq_true hlt; omega
              have e5 : IntKind.i64.wrap ((i : Int) + 1) = ((i + 1 : Nat) : Int) := by rw [IntKind.wrap_i64]; omega
              repeat ((conv => whnf); (first | refine Cnd.yes ?_ | refine Cnd.no ?_ | refine And.intro rfl ?_ | refine And.intro (by omega) ?_ | (refine And.intro ?_ ?_; focus (simp only [IntKind.wrap_i64, IntKind.wrap_u64, IntKind.wrap_u32]; omega)) | (refine And.intro ?_ ?_; focus (simp only [zl1, zl2, zl3, zl4, zl5, zl6, zl7, zl8, zl9] <;> omega)) | (refine Cnd.tt ?_ ?_; focus (first | (apply decide_eq_true; omega) | (simp only [zq1, zq2, zq3, zq4, zq5, zq6, zq7, zq8, zq9, zq10, zq11, zq12] <;> omega) | rfl)) | (refine Cnd.ff ?_ ?_; focus (first | (apply decide_eq_false; omega) | (simp only [zq1, zq2, zq3, zq4, zq5, zq6, zq7, zq8, zq9, zq10, zq11, zq12] <;> omega) | rfl))))
              conv => whnf
              rw [e5]
              refine ⟨InvS 132 (fun s : Nat => n - s) (fun s : Nat => i + 1 ≤ s ∧ s ≤ n) (fun s : Nat => [(0, .v (.int .i64 n)), (1, .v (.int .i64 a)), (2, .v (.int .i64 b)), (11, .v (.bool true)), (12, .slc 0 13 0 n), (14, .v (.int .i64 0)), (15, .v (.int .i64 i)), (16, .v (.int .i64 s))]) (fun s : Nat => [Ent.row true 30 ock ((fOps (dF a b 3 false nilV) n).map orow)]) M1, ⟨(fun s : Nat => n - s) (i + 1), [0], tmk 132 0 ((fun s : Nat => [(0, .v (.int .i64 n)), (1, .v (.int .i64 a)), (2, .v (.int .i64 b)), (11, .v (.bool true)), (12, .slc 0 13 0 n), (14, .v (.int .i64 0)), (15, .v (.int .i64 i)), (16, .v (.int .i64 s))]) (i + 1)), (fun s : Nat => [Ent.row true 30 ock ((fOps (dF a b 3 false nilV) n).map orow)]) (i + 1), ?_⟩, ?_⟩
              · repeat ((conv => whnf); (first | refine Cnd.yes ?_ | refine Cnd.no ?_ | refine And.intro rfl ?_ | refine And.intro (by omega) ?_ | (refine And.intro ?_ ?_; focus (simp only [IntKind.wrap_i64, IntKind.wrap_u64, IntKind.wrap_u32]; omega)) | (refine And.intro ?_ ?_; focus (simp only [zl1, zl2, zl3, zl4, zl5, zl6, zl7, zl8, zl9] <;> omega))))
                conv => whnf
                exact ⟨i + 1, ⟨Nat.le_refl _, hin⟩, rfl, rfl, (tmkK_eq _ _ _ _).mpr rfl, rfl⟩
              · rintro cnt tm hp M1 ⟨k, hC_, rfl, rfl, htm, hhp_⟩
                replace hC_ : i + 1 ≤ k ∧ k ≤ n := hC_
                obtain ⟨hk1,hk2⟩ := hC_
                replace htm : tmkK 132 0 [(0, .v (.int .i64 n)), (1, .v (.int .i64 a)), (2, .v (.int .i64 b)), (11, .v (.bool true)), (12, .slc 0 13 0 n), (14, .v (.int .i64 0)), (15, .v (.int .i64 i)), (16, .v (.int .i64 k))] (fun l => tm = l) := htm
                conv at htm => whnf
                subst htm
                replace hhp_ : hp = [Ent.row true 30 ock ((fOps (dF a b 3 false nilV) n).map orow)] := hhp_
                subst hhp_
                repeat ((conv => whnf); (first | refine Cnd.yes ?_ | refine Cnd.no ?_ | refine And.intro rfl ?_ | refine And.intro (by omega) ?_ | (refine And.intro ?_ ?_; focus (simp only [IntKind.wrap_i64, IntKind.wrap_u64, IntKind.wrap_u32]; omega)) | (refine And.intro ?_ ?_; focus (simp only [zl1, zl2, zl3, zl4, zl5, zl6, zl7, zl8, zl9] <;> omega)) | (refine Cnd.tt ?_ ?_; focus (first | (apply decide_eq_true; omega) | (simp only [zq1, zq2, zq3, zq4, zq5, zq6, zq7, zq8, zq9, zq10, zq11, zq12] <;> omega) | rfl)) | (refine Cnd.ff ?_ ?_; focus (first | (apply decide_eq_false; omega) | (simp only [zq1, zq2, zq3, zq4, zq5, zq6, zq7, zq8, zq9, zq10, zq11, zq12] <;> omega) | rfl))))
                conv => whnf
                refine Cnd.mk (fun hlt2 => ?_) fun hge3 => ?_
                · have hkn : k < n := by have := of_decide_eq_true hlt2; omega
                  have hw := dF_why a b 3 n false nilV (show i < k by omega) hkn
                  by_cases q1 : i = a
                  · by_cases q2 : k = b
                    · rw [if_pos ⟨q1, q2⟩] at hw
                      repeat ((conv => whnf); (first | refine Cnd.yes ?_ | refine Cnd.no ?_ | refine And.intro rfl ?_ | refine And.intro (by omega) ?_ | (refine And.intro ?_ ?_; focus (simp only [IntKind.wrap_i64, IntKind.wrap_u64, IntKind.wrap_u32]; omega)) | (refine And.intro ?_ ?_; focus (simp only [zl1, zl2, zl3, zl4, zl5, zl6, zl7, zl8, zl9] <;> omega)) | (refine Cnd.tt ?_ ?_; focus (first | (apply decide_eq_true; omega) | (simp only [zq1, zq2, zq3, zq4, zq5, zq6, zq7, zq8, zq9, zq10, zq11, zq12] <;> omega) | rfl)) | (refine Cnd.ff ?_ ?_; focus (first | (apply decide_eq_false; omega) | (simp only [zq1, zq2, zq3, zq4, zq5, zq6, zq7, zq8, zq9, zq10, zq11, zq12] <;> omega) | rfl))))
                      conv => whnf
                      refine ⟨true, 30, fOps (dF a b 3 false nilV) n, i, k, by rw [hl], rfl, by omega, dF_fit a b 3 n false nilV (by omega), dF_dep3 _ a b n false nilV, ?_⟩
                      rw [hw, show wantD 3 false = 0 from rfl]
                      repeat ((conv => whnf); (first | refine Cnd.yes ?_ | refine Cnd.no ?_ | refine And.intro rfl ?_ | refine And.intro (by omega) ?_ | (refine And.intro ?_ ?_; focus (simp only [IntKind.wrap_i64, IntKind.wrap_u64, IntKind.wrap_u32]; omega)) | (refine And.intro ?_ ?_; focus (simp only [zl1, zl2, zl3, zl4, zl5, zl6, zl7, zl8, zl9] <;> omega)) | (refine Cnd.tt ?_ ?_; focus (first | (apply decide_eq_true; omega) | (simp only [zq1, zq2, zq3, zq4, zq5, zq6, zq7, zq8, zq9, zq10, zq11, zq12] <;> omega) | rfl)) | (refine Cnd.ff ?_ ?_; focus (first | (apply decide_eq_false; omega) | (simp only [zq1, zq2, zq3, zq4, zq5, zq6, zq7, zq8, zq9, zq10, zq11, zq12] <;> omega) | rfl))))
                      conv => whnf
                      (refine ⟨(fun s : Nat => n - s) (k + 1), [0], tmk 132 0 ((fun s : Nat => [(0, .v (.int .i64 n)), (1, .v (.int .i64 a)), (2, .v (.int .i64 b)), (11, .v (.bool true)), (12, .slc 0 13 0 n), (14, .v (.int .i64 0)), (15, .v (.int .i64 i)), (16, .v (.int .i64 s))]) (k + 1)), (fun s : Nat => [Ent.row true 30 ock ((fOps (dF a b 3 false nilV) n).map orow)]) (k + 1), ?_, ?_⟩; focus (first | (simp only []; omega) | omega))
                      repeat ((conv => whnf); (first | refine Cnd.yes ?_ | refine Cnd.no ?_ | refine And.intro rfl ?_ | refine And.intro (by omega) ?_ | (refine And.intro ?_ ?_; focus (simp only [IntKind.wrap_i64, IntKind.wrap_u64, IntKind.wrap_u32]; omega)) | (refine And.intro ?_ ?_; focus (simp only [zl1, zl2, zl3, zl4, zl5, zl6, zl7, zl8, zl9] <;> omega))))
                      conv => whnf
                      exact ⟨k + 1, ⟨by omega, hkn⟩, rfl, rfl, (tmkK_eq _ _ _ _).mpr rfl, rfl⟩
                    · rw [if_neg (fun h => q2 h.2)] at hw
                      repeat ((conv => whnf); (first | refine Cnd.yes ?_ | refine Cnd.no ?_ | refine And.intro rfl ?_ | refine And.intro (by omega) ?_ | (refine And.intro ?_ ?_; focus (simp only [IntKind.wrap_i64, IntKind.wrap_u64, IntKind.wrap_u32]; omega)) | (refine And.intro ?_ ?_; focus (simp only [zl1, zl2, zl3, zl4, zl5, zl6, zl7, zl8, zl9] <;> omega)) | (refine Cnd.tt ?_ ?_; focus (first | (apply decide_eq_true; omega) | (simp only [zq1, zq2, zq3, zq4, zq5, zq6, zq7, zq8, zq9, zq10, zq11, zq12] <;> omega) | rfl)) | (refine Cnd.ff ?_ ?_; focus (first | (apply decide_eq_false; omega) | (simp only [zq1, zq2, zq3, zq4, zq5, zq6, zq7, zq8, zq9, zq10, zq11, zq12] <;> omega) | rfl))))
                      conv => whnf
                      refine ⟨true, 30, fOps (dF a b 3 false nilV) n, i, k, by rw [hl], rfl, by omega, dF_fit a b 3 n false nilV (by omega), dF_dep3 _ a b n false nilV, ?_⟩
                      rw [hw]
                      repeat ((conv => whnf); (first | refine Cnd.yes ?_ | refine Cnd.no ?_ | refine And.intro rfl ?_ | refine And.intro (by omega) ?_ | (refine And.intro ?_ ?_; focus (simp only [IntKind.wrap_i64, IntKind.wrap_u64, IntKind.wrap_u32]; omega)) | (refine And.intro ?_ ?_; focus (simp only [zl1, zl2, zl3, zl4, zl5, zl6, zl7, zl8, zl9] <;> omega)) | (refine Cnd.tt ?_ ?_; focus (first | (apply decide_eq_true; omega) | (simp only [zq1, zq2, zq3, zq4, zq5, zq6, zq7, zq8, zq9, zq10, zq11, zq12] <;> omega) | rfl)) | (refine Cnd.ff ?_ ?_; focus (first | (apply decide_eq_false; omega) | (simp only [zq1, zq2, zq3, zq4, zq5, zq6, zq7, zq8, zq9, zq10, zq11, zq12] <;> omega) | rfl))))
                      conv => whnf
                      (refine ⟨(fun s : Nat => n - s) (k + 1), [0], tmk 132 0 ((fun s : Nat => [(0, .v (.int .i64 n)), (1, .v (.int .i64 a)), (2, .v (.int .i64 b)), (11, .v (.bool true)), (12, .slc 0 13 0 n), (14, .v (.int .i64 0)), (15, .v (.int .i64 i)), (16, .v (.int .i64 s))]) (k + 1)), (fun s : Nat => [Ent.row true 30 ock ((fOps (dF a b 3 false nilV) n).map orow)]) (k + 1), ?_, ?_⟩; focus (first | (simp only []; omega) | omega))
                      repeat ((conv => whnf); (first | refine Cnd.yes ?_ | refine Cnd.no ?_ | refine And.intro rfl ?_ | refine And.intro (by omega) ?_ | (refine And.intro ?_ ?_; focus (simp only [IntKind.wrap_i64, IntKind.wrap_u64, IntKind.wrap_u32]; omega)) | (refine And.intro ?_ ?_; focus (simp only [zl1, zl2, zl3, zl4, zl5, zl6, zl7, zl8, zl9] <;> omega))))
                      conv => whnf
                      exact ⟨k + 1, ⟨by omega, hkn⟩, rfl, rfl, (tmkK_eq _ _ _ _).mpr rfl, rfl⟩
                  · rw [if_neg (fun h => q1 h.1)] at hw
                    repeat ((conv => whnf); (first | refine Cnd.yes ?_ | refine Cnd.no ?_ | refine And.intro rfl ?_ | refine And.intro (by omega) ?_ | (refine And.intro ?_ ?_; focus (simp only [IntKind.wrap_i64, IntKind.wrap_u64, IntKind.wrap_u32]; omega)) | (refine And.intro ?_ ?_; focus (simp only [zl1, zl2, zl3, zl4, zl5, zl6, zl7, zl8, zl9] <;> omega)) | (refine Cnd.tt ?_ ?_; focus (first | (apply decide_eq_true; omega) | (simp only [zq1, zq2, zq3, zq4, zq5, zq6, zq7, zq8, zq9, zq10, zq11, zq12] <;> omega) | rfl)) | (refine Cnd.ff ?_ ?_; focus (first | (apply decide_eq_false; omega) | (simp only [zq1, zq2, zq3, zq4, zq5, zq6, zq7, zq8, zq9, zq10, zq11, zq12] <;> omega) | rfl))))
                    conv => whnf
                    refine ⟨true, 30, fOps (dF a b 3 false nilV) n, i, k, by rw [hl], rfl, by omega, dF_fit a b 3 n false nilV (by omega), dF_dep3 _ a b n false nilV, ?_⟩
                    rw [hw]
                    repeat ((conv => whnf); (first | refine Cnd.yes ?_ | refine Cnd.no ?_ | refine And.intro rfl ?_ | refine And.intro (by omega) ?_ | (refine And.intro ?_ ?_; focus (simp only [IntKind.wrap_i64, IntKind.wrap_u64, IntKind.wrap_u32]; omega)) | (refine And.intro ?_ ?_; focus (simp only [zl1, zl2, zl3, zl4, zl5, zl6, zl7, zl8, zl9] <;> omega)) | (refine Cnd.tt ?_ ?_; focus (first | (apply decide_eq_true; omega) | (simp only [zq1, zq2, zq3, zq4, zq5, zq6, zq7, zq8, zq9, zq10, zq11, zq12] <;> omega) | rfl)) | (refine Cnd.ff ?_ ?_; focus (first | (apply decide_eq_false; omega) | (simp only [zq1, zq2, zq3, zq4, zq5, zq6, zq7, zq8, zq9, zq10, zq11, zq12] <;> omega) | rfl))))
                    conv => whnf
                    (refine ⟨(fun s : Nat => n - s) (k + 1), [0], tmk 132 0 ((fun s : Nat => [(0, .v (.int .i64 n)), (1, .v (.int .i64 a)), (2, .v (.int .i64 b)), (11, .v (.bool true)), (12, .slc 0 13 0 n), (14, .v (.int .i64 0)), (15, .v (.int .i64 i)), (16, .v (.int .i64 s))]) (k + 1)), (fun s : Nat => [Ent.row true 30 ock ((fOps (dF a b 3 false nilV) n).map orow)]) (k + 1), ?_, ?_⟩; focus (first | (simp only []; omega) | omega))
                    repeat ((conv => whnf); (first | refine Cnd.yes ?_ | refine Cnd.no ?_ | refine And.intro rfl ?_ | refine And.intro (by omega) ?_ | (refine And.intro ?_ ?_; focus (simp only [IntKind.wrap_i64, IntKind.wrap_u64, IntKind.wrap_u32]; omega)) | (refine And.intro ?_ ?_; focus (simp only [zl1, zl2, zl3, zl4, zl5, zl6, zl7, zl8, zl9] <;> omega))))
                    conv => whnf
                    exact ⟨k + 1, ⟨by omega, hkn⟩, rfl, rfl, (tmkK_eq _ _ _ _).mpr rfl, rfl⟩
                · repeat ((conv => whnf); (first | refine Cnd.yes ?_ | refine Cnd.no ?_ | refine And.intro rfl ?_ | refine And.intro (by omega) ?_ | (refine And.intro ?_ ?_; focus (simp only [IntKind.wrap_i64, IntKind.wrap_u64, IntKind.wrap_u32]; omega)) | (refine And.intro ?_ ?_; focus (simp only [zl1, zl2, zl3, zl4, zl5, zl6, zl7, zl8, zl9] <;> omega)) | (refine Cnd.tt ?_ ?_; focus (first | (apply decide_eq_true; omega) | (simp only [zq1, zq2, zq3, zq4, zq5, zq6, zq7, zq8, zq9, zq10, zq11, zq12] <;> omega) | rfl)) | (refine Cnd.ff ?_ ?_; focus (first | (apply decide_eq_false; omega) | (simp only [zq1, zq2, zq3, zq4, zq5, zq6, zq7, zq8, zq9, zq10, zq11, zq12] <;> omega) | rfl))))
                  conv => whnf
                  (refine ⟨(fun s : Nat => n - s) ((i + 1)), [0], tmk 132 0 ((fun s : Nat => [(0, .v (.int .i64 n)), (1, .v (.int .i64 a)), (2, .v (.int .i64 b)), (11, .v (.bool true)), (12, .slc 0 13 0 n), (14, .v (.int .i64 0)), (15, .v (.int .i64 s))]) ((i + 1))), (fun s : Nat => [Ent.row true 30 ock ((fOps (dF a b 3 false nilV) n).map orow)]) ((i + 1)), ?_, ?_⟩; focus (first | (simp only []; omega) | omega))
                  repeat ((conv => whnf); (first | refine Cnd.yes ?_ | refine Cnd.no ?_ | refine And.intro rfl ?_ | refine And.intro (by omega) ?_ | (refine And.intro ?_ ?_; focus (simp only [IntKind.wrap_i64, IntKind.wrap_u64, IntKind.wrap_u32]; omega)) | (refine And.intro ?_ ?_; focus (simp only [zl1, zl2, zl3, zl4, zl5, zl6, zl7, zl8, zl9] <;> omega))))
                  conv => whnf
                  exact ⟨i + 1, hin, rfl, rfl, (tmkK_eq _ _ _ _).mpr rfl, rfl⟩
            · repeat ((conv => whnf); (first | refine Cnd.yes ?_ | refine Cnd.no ?_ | refine And.intro rfl ?_ | refine And.intro (by omega) ?_ | (refine And.intro ?_ ?_; focus (simp only [IntKind.wrap_i64, IntKind.wrap_u64, IntKind.wrap_u32]; omega)) | (refine And.intro ?_ ?_; focus (simp only [zl1, zl2, zl3, zl4, zl5, zl6, zl7, zl8, zl9] <;> omega)) | (refine Cnd.tt ?_ ?_; focus (first | (apply decide_eq_true; omega) | (simp only [zq1, zq2, zq3, zq4, zq5, zq6, zq7, zq8, zq9, zq10, zq11, zq12] <;> omega) | rfl)) | (refine Cnd.ff ?_ ?_; focus (first | (apply decide_eq_false; omega) | (simp only [zq1, zq2, zq3, zq4, zq5, zq6, zq7, zq8, zq9, zq10, zq11, zq12] <;> omega) | rfl))))
              conv => whnf
              refine ⟨true, 30, fOps (dF a b 3 false nilV) n, b, a, by rw [hl], rfl, by omega, dF_fit a b 3 n false nilV (by omega), dF_dep3 _ a b n false nilV, ?_⟩
              rw [whyN_out (by omega)]
              repeat ((conv => whnf); (first | refine Cnd.yes ?_ | refine Cnd.no ?_ | refine And.intro rfl ?_ | refine And.intro (by omega) ?_ | (refine And.intro ?_ ?_; focus (simp only [IntKind.wrap_i64, IntKind.wrap_u64, IntKind.wrap_u32]; omega)) | (refine And.intro ?_ ?_; focus (simp only [zl1, zl2, zl3, zl4, zl5, zl6, zl7, zl8, zl9] <;> omega)) | (refine Cnd.tt ?_ ?_; focus (first | (apply decide_eq_true; omega) | (simp only [zq1, zq2, zq3, zq4, zq5, zq6, zq7, zq8, zq9, zq10, zq11, zq12] <;> omega) | rfl)) | (refine Cnd.ff ?_ ?_; focus (first | (apply decide_eq_false; omega) | (simp only [zq1, zq2, zq3, zq4, zq5, zq6, zq7, zq8, zq9, zq10, zq11, zq12] <;> omega) | rfl))))
              conv => whnf
              refine ⟨true, 30, fOps (dF a b 3 false nilV) n, a, a, by rw [hl], rfl, by omega, dF_fit a b 3 n false nilV (by omega), dF_dep3 _ a b n false nilV, ?_⟩
              rw [whyN_out (by omega)]
              repeat ((conv => whnf); (first | refine Cnd.yes ?_ | refine Cnd.no ?_ | refine And.intro rfl ?_ | refine And.intro (by omega) ?_ | (refine And.intro ?_ ?_; focus (simp only [IntKind.wrap_i64, IntKind.wrap_u64, IntKind.wrap_u32]; omega)) | (refine And.intro ?_ ?_; focus (simp only [zl1, zl2, zl3, zl4, zl5, zl6, zl7, zl8, zl9] <;> omega)) | (refine Cnd.tt ?_ ?_; focus (first | (apply decide_eq_true; omega) | (simp only [zq1, zq2, zq3, zq4, zq5, zq6, zq7, zq8, zq9, zq10, zq11, zq12] <;> omega) | rfl)) | (refine Cnd.ff ?_ ?_; focus (first | (apply decide_eq_false; omega) | (simp only [zq1, zq2, zq3, zq4, zq5, zq6, zq7, zq8, zq9, zq10, zq11, zq12] <;> omega) | rfl))))
              conv => whnf
              refine ⟨true, 30, fOps (dF a b 3 false nilV) n, -1, b, by rw [hl], rfl, by omega, dF_fit a b 3 n false nilV (by omega), dF_dep3 _ a b n false nilV, ?_⟩
              rw [whyN_out (by omega)]
              repeat ((conv => whnf); (first | refine Cnd.yes ?_ | refine Cnd.no ?_ | refine And.intro rfl ?_ | refine And.intro (by omega) ?_ | (refine And.intro ?_ ?_; focus (simp only [IntKind.wrap_i64, IntKind.wrap_u64, IntKind.wrap_u32]; omega)) | (refine And.intro ?_ ?_; focus (simp only [zl1, zl2, zl3, zl4, zl5, zl6, zl7, zl8, zl9] <;> omega)) | (refine Cnd.tt ?_ ?_; focus (first | (apply decide_eq_true; omega) | (simp only [zq1, zq2, zq3, zq4, zq5, zq6, zq7, zq8, zq9, zq10, zq11, zq12] <;> omega) | rfl)) | (refine Cnd.ff ?_ ?_; focus (first | (apply decide_eq_false; omega) | (simp only [zq1, zq2, zq3, zq4, zq5, zq6, zq7, zq8, zq9, zq10, zq11, zq12] <;> omega) | rfl))))
              conv => whnf
              refine ⟨true, 30, fOps (dF a b 3 false nilV) n, a, n, by rw [hl], rfl, by omega, dF_fit a b 3 n false nilV (by omega), dF_dep3 _ a b n false nilV, ?_⟩
              rw [whyN_out (by omega)]
              repeat ((conv => whnf); (first | refine Cnd.yes ?_ | refine Cnd.no ?_ | refine And.intro rfl ?_ | refine And.intro (by omega) ?_ | (refine And.intro ?_ ?_; focus (simp only [IntKind.wrap_i64, IntKind.wrap_u64, IntKind.wrap_u32]; omega)) | (refine And.intro ?_ ?_; focus (simp only [zl1, zl2, zl3, zl4, zl5, zl6, zl7, zl8, zl9] <;> omega)) | (refine Cnd.tt ?_ ?_; focus (first | (apply decide_eq_true; omega) | (simp only [zq1, zq2, zq3, zq4, zq5, zq6, zq7, zq8, zq9, zq10, zq11, zq12] <;> omega) | rfl)) | (refine Cnd.ff ?_ ?_; focus (first | (apply decide_eq_false; omega) | (simp only [zq1, zq2, zq3, zq4, zq5, zq6, zq7, zq8, zq9, zq10, zq11, zq12] <;> omega) | rfl))))
              conv => whnf
              exact hK _ _
      · rcases (show how = 0 ∨ how = 1 ∨ how = 2 ∨ how = 3 by omega) with rfl | rfl | rfl | rfl
        · repeat ((conv => whnf); (first | refine Cnd.yes ?_ | refine Cnd.no ?_ | refine And.intro rfl ?_ | refine And.intro (by omega) ?_ | (refine And.intro ?_ ?_; focus (simp only [IntKind.wrap_i64, IntKind.wrap_u64, IntKind.wrap_u32]; omega)) | (refine And.intro ?_ ?_; focus (simp only [zl1, zl2, zl3, zl4, zl5, zl6, zl7, zl8, zl9] <;> omega)) | (refine Cnd.tt ?_ ?_; focus (first | (apply decide_eq_true; omega) | (simp only [zq1, zq2, zq3, zq4, zq5, zq6, zq7, zq8, zq9, zq10, zq11, zq12] <;> omega) | rfl)) | (refine Cnd.ff ?_ ?_; focus (first | (apply decide_eq_false; omega) | (simp only [zq1, zq2, zq3, zq4, zq5, zq6, zq7, zq8, zq9, zq10, zq11, zq12] <;> omega) | rfl))))
          conv => whnf
          intro y M2 hM2 hR2
          replace hR2 : Vc.RowsIn M2 3 [.int .i64] y [[Value.int .i64 a]] := hR2
          repeat ((conv => whnf); (first | refine Cnd.yes ?_ | refine Cnd.no ?_ | refine And.intro rfl ?_ | refine And.intro (by omega) ?_ | (refine And.intro ?_ ?_; focus (simp only [IntKind.wrap_i64, IntKind.wrap_u64, IntKind.wrap_u32]; omega)) | (refine And.intro ?_ ?_; focus (simp only [zl1, zl2, zl3, zl4, zl5, zl6, zl7, zl8, zl9] <;> omega)) | (refine Cnd.tt ?_ ?_; focus (first | (apply decide_eq_true; omega) | (simp only [zq1, zq2, zq3, zq4, zq5, zq6, zq7, zq8, zq9, zq10, zq11, zq12] <;> omega) | rfl)) | (refine Cnd.ff ?_ ?_; focus (first | (apply decide_eq_false; omega) | (simp only [zq1, zq2, zq3, zq4, zq5, zq6, zq7, zq8, zq9, zq10, zq11, zq12] <;> omega) | rfl))))
          conv => whnf
          rw [f1_true hbn, rowsA a true y hbn]
          have hl := fOps_len (dF a b 0 true y) n
          refine ⟨InvS 132 (fun s : Nat => n - s) (fun s : Nat => s ≤ n) (fun s : Nat => [(0, .v (.int .i64 n)), (1, .v (.int .i64 a)), (2, .v (.int .i64 b)), (11, .v (.bool true)), (12, .slc 0 13 0 n), (14, .v (.int .i64 9)), (15, .v (.int .i64 s))]) (fun s : Nat => [Ent.row true 30 ock ((fOps (dF a b 0 true y) n).map orow)]) M2, ⟨(fun s : Nat => n - s) 0, [0], tmk 132 0 ((fun s : Nat => [(0, .v (.int .i64 n)), (1, .v (.int .i64 a)), (2, .v (.int .i64 b)), (11, .v (.bool true)), (12, .slc 0 13 0 n), (14, .v (.int .i64 9)), (15, .v (.int .i64 s))]) 0), (fun s : Nat => [Ent.row true 30 ock ((fOps (dF a b 0 true y) n).map orow)]) 0, ?_⟩, ?_⟩
          · repeat ((conv => whnf); (first | refine Cnd.yes ?_ | refine Cnd.no ?_ | refine And.intro rfl ?_ | refine And.intro (by omega) ?_ | (refine And.intro ?_ ?_; focus (simp only [IntKind.wrap_i64, IntKind.wrap_u64, IntKind.wrap_u32]; omega)) | (refine And.intro ?_ ?_; focus (simp only [zl1, zl2, zl3, zl4, zl5, zl6, zl7, zl8, zl9] <;> omega))))
            conv => whnf
            exact ⟨0, Nat.zero_le _, rfl, rfl, (tmkK_eq _ _ _ _).mpr rfl, rfl⟩
          · rintro cnt tm hp M1 ⟨i, hC_, rfl, rfl, htm, hhp_⟩
            replace hC_ : i ≤ n := hC_
            have hi2 := hC_
            replace htm : tmkK 132 0 [(0, .v (.int .i64 n)), (1, .v (.int .i64 a)), (2, .v (.int .i64 b)), (11, .v (.bool true)), (12, .slc 0 13 0 n), (14, .v (.int .i64 9)), (15, .v (.int .i64 i))] (fun l => tm = l) := htm
            conv at htm => whnf
            subst htm
            replace hhp_ : hp = [Ent.row true 30 ock ((fOps (dF a b 0 true y) n).map orow)] := hhp_
            subst hhp_
            repeat ((conv => whnf); (first | refine Cnd.yes ?_ | refine Cnd.no ?_ | refine And.intro rfl ?_ | refine And.intro (by omega) ?_ | (refine And.intro ?_ ?_; focus (simp only [IntKind.wrap_i64, IntKind.wrap_u64, IntKind.wrap_u32]; omega)) | (refine And.intro ?_ ?_; focus (simp only [zl1, zl2, zl3, zl4, zl5, zl6, zl7, zl8, zl9] <;> omega)) | (refine Cnd.tt ?_ ?_; focus (first | (apply decide_eq_true; omega) | (simp only [zq1, zq2, zq3, zq4, zq5, zq6, zq7, zq8, zq9, zq10, zq11, zq12] <;> omega) | rfl)) | (refine Cnd.ff ?_ ?_; focus (first | (apply decide_eq_false; omega) | (simp only [zq1, zq2, zq3, zq4, zq5, zq6, zq7, zq8, zq9, zq10, zq11, zq12] <;> omega) | rfl))))
            conv => whnf
            refine Cnd.mk (fun hlt => ?_) fun hge2 => ?_
            · have hin : i < n := by have := of_decide_eq_true hlt; omega
              have e5 : IntKind.i64.wrap ((i : Int) + 1) = ((i + 1 : Nat) : Int) := by rw [IntKind.wrap_i64]; omega
              repeat ((conv => whnf); (first | refine Cnd.yes ?_ | refine Cnd.no ?_ | refine And.intro rfl ?_ | refine And.intro (by omega) ?_ | (refine And.intro ?_ ?_; focus (simp only [IntKind.wrap_i64, IntKind.wrap_u64, IntKind.wrap_u32]; omega)) | (refine And.intro ?_ ?_; focus (simp only [zl1, zl2, zl3, zl4, zl5, zl6, zl7, zl8, zl9] <;> omega)) | (refine Cnd.tt ?_ ?_; focus (first | (apply decide_eq_true; omega) | (simp only [zq1, zq2, zq3, zq4, zq5, zq6, zq7, zq8, zq9, zq10, zq11, zq12] <;> omega) | rfl)) | (refine Cnd.ff ?_ ?_; focus (first | (apply decide_eq_false; omega) | (simp only [zq1, zq2, zq3, zq4, zq5, zq6, zq7, zq8, zq9, zq10, zq11, zq12] <;> omega) | rfl))))
              conv => whnf
              rw [e5]
              refine ⟨InvS 132 (fun s : Nat => n - s) (fun s : Nat => i + 1 ≤ s ∧ s ≤ n) (fun s : Nat => [(0, .v (.int .i64 n)), (1, .v (.int .i64 a)), (2, .v (.int .i64 b)), (11, .v (.bool true)), (12, .slc 0 13 0 n), (14, .v (.int .i64 9)), (15, .v (.int .i64 i)), (16, .v (.int .i64 s))]) (fun s : Nat => [Ent.row true 30 ock ((fOps (dF a b 0 true y) n).map orow)]) M1, ⟨(fun s : Nat => n - s) (i + 1), [0], tmk 132 0 ((fun s : Nat => [(0, .v (.int .i64 n)), (1, .v (.int .i64 a)), (2, .v (.int .i64 b)), (11, .v (.bool true)), (12, .slc 0 13 0 n), (14, .v (.int .i64 9)), (15, .v (.int .i64 i)), (16, .v (.int .i64 s))]) (i + 1)), (fun s : Nat => [Ent.row true 30 ock ((fOps (dF a b 0 true y) n).map orow)]) (i + 1), ?_⟩, ?_⟩
              · repeat ((conv => whnf); (first | refine Cnd.yes ?_ | refine Cnd.no ?_ | refine And.intro rfl ?_ | refine And.intro (by omega) ?_ | (refine And.intro ?_ ?_; focus (simp only [IntKind.wrap_i64, IntKind.wrap_u64, IntKind.wrap_u32]; omega)) | (refine And.intro ?_ ?_; focus (simp only [zl1, zl2, zl3, zl4, zl5, zl6, zl7, zl8, zl9] <;> omega))))
                conv => whnf
                exact ⟨i + 1, ⟨Nat.le_refl _, hin⟩, rfl, rfl, (tmkK_eq _ _ _ _).mpr rfl, rfl⟩
              · rintro cnt tm hp M1 ⟨k, hC_, rfl, rfl, htm, hhp_⟩
                replace hC_ : i + 1 ≤ k ∧ k ≤ n := hC_
                obtain ⟨hk1,hk2⟩ := hC_
                replace htm : tmkK 132 0 [(0, .v (.int .i64 n)), (1, .v (.int .i64 a)), (2, .v (.int .i64 b)), (11, .v (.bool true)), (12, .slc 0 13 0 n), (14, .v (.int .i64 9)), (15, .v (.int .i64 i)), (16, .v (.int .i64 k))] (fun l => tm = l) := htm
                conv at htm => whnf
                subst htm
                replace hhp_ : hp = [Ent.row true 30 ock ((fOps (dF a b 0 true y) n).map orow)] := hhp_
                subst hhp_
                repeat ((conv => whnf); (first | refine Cnd.yes ?_ | refine Cnd.no ?_ | refine And.intro rfl ?_ | refine And.intro (by omega) ?_ | (refine And.intro ?_ ?_; focus (simp only [IntKind.wrap_i64, IntKind.wrap_u64, IntKind.wrap_u32]; omega)) | (refine And.intro ?_ ?_; focus (simp only [zl1, zl2, zl3, zl4, zl5, zl6, zl7, zl8, zl9] <;> omega)) | (refine Cnd.tt ?_ ?_; focus (first | (apply decide_eq_true; omega) | (simp only [zq1, zq2, zq3, zq4, zq5, zq6, zq7, zq8, zq9, zq10, zq11, zq12] <;> omega) | rfl)) | (refine Cnd.ff ?_ ?_; focus (first | (apply decide_eq_false; omega) | (simp only [zq1, zq2, zq3, zq4, zq5, zq6, zq7, zq8, zq9, zq10, zq11, zq12] <;> omega) | rfl))))
                conv => whnf
                refine Cnd.mk (fun hlt2 => ?_) fun hge3 => ?_
                · have hkn : k < n := by have := of_decide_eq_true hlt2; omega
                  have hw := dF_why a b 0 n true y (show i < k by omega) hkn
                  by_cases q1 : i = a
                  · by_cases q2 : k = b
                    · rw [if_pos ⟨q1, q2⟩] at hw
                      repeat ((conv => whnf); (first | refine Cnd.yes ?_ | refine Cnd.no ?_ | refine And.intro rfl ?_ | refine And.intro (by omega) ?_ | (refine And.intro ?_ ?_; focus (simp only [IntKind.wrap_i64, IntKind.wrap_u64, IntKind.wrap_u32]; omega)) | (refine And.intro ?_ ?_; focus (simp only [zl1, zl2, zl3, zl4, zl5, zl6, zl7, zl8, zl9] <;> omega)) | (refine Cnd.tt ?_ ?_; focus (first | (apply decide_eq_true; omega) | (simp only [zq1, zq2, zq3, zq4, zq5, zq6, zq7, zq8, zq9, zq10, zq11, zq12] <;> omega) | rfl)) | (refine Cnd.ff ?_ ?_; focus (first | (apply decide_eq_false; omega) | (simp only [zq1, zq2, zq3, zq4, zq5, zq6, zq7, zq8, zq9, zq10, zq11, zq12] <;> omega) | rfl))))
                      conv => whnf
                      refine ⟨true, 30, fOps (dF a b 0 true y) n, i, k, by rw [hl], rfl, by omega, dF_fit a b 0 n true y (by omega), dF_dep a b 0 n true hR2, ?_⟩
                      rw [hw, show wantD 0 true = 9 from rfl]
                      repeat ((conv => whnf); (first | refine Cnd.yes ?_ | refine Cnd.no ?_ | refine And.intro rfl ?_ | refine And.intro (by omega) ?_ | (refine And.intro ?_ ?_; focus (simp only [IntKind.wrap_i64, IntKind.wrap_u64, IntKind.wrap_u32]; omega)) | (refine And.intro ?_ ?_; focus (simp only [zl1, zl2, zl3, zl4, zl5, zl6, zl7, zl8, zl9] <;> omega)) | (refine Cnd.tt ?_ ?_; focus (first | (apply decide_eq_true; omega) | (simp only [zq1, zq2, zq3, zq4, zq5, zq6, zq7, zq8, zq9, zq10, zq11, zq12] <;> omega) | rfl)) | (refine Cnd.ff ?_ ?_; focus (first | (apply decide_eq_false; omega) | (simp only [zq1, zq2, zq3, zq4, zq5, zq6, zq7, zq8, zq9, zq10, zq11, zq12] <;> omega) | rfl))))
                      conv => whnf
                      (refine ⟨(fun s : Nat => n - s) (k + 1), [0], tmk 132 0 ((fun s : Nat => [(0, .v (.int .i64 n)), (1, .v (.int .i64 a)), (2, .v (.int .i64 b)), (11, .v (.bool true)), (12, .slc 0 13 0 n), (14, .v (.int .i64 9)), (15, .v (.int .i64 i)), (16, .v (.int .i64 s))]) (k + 1)), (fun s : Nat => [Ent.row true 30 ock ((fOps (dF a b 0 true y) n).map orow)]) (k + 1), ?_, ?_⟩; focus (first | (simp only []; omega) | omega))
                      repeat ((conv => whnf); (first | refine Cnd.yes ?_ | refine Cnd.no ?_ | refine And.intro rfl ?_ | refine And.intro (by omega) ?_ | (refine And.intro ?_ ?_; focus (simp only [IntKind.wrap_i64, IntKind.wrap_u64, IntKind.wrap_u32]; omega)) | (refine And.intro ?_ ?_; focus (simp only [zl1, zl2, zl3, zl4, zl5, zl6, zl7, zl8, zl9] <;> omega))))
                      conv => whnf
                      exact ⟨k + 1, ⟨by omega, hkn⟩, rfl, rfl, (tmkK_eq _ _ _ _).mpr rfl, rfl⟩
                    · rw [if_neg (fun h => q2 h.2)] at hw
                      repeat ((conv => whnf); (first | refine Cnd.yes ?_ | refine Cnd.no ?_ | refine And.intro rfl ?_ | refine And.intro (by omega) ?_ | (refine And.intro ?_ ?_; focus (simp only [IntKind.wrap_i64, IntKind.wrap_u64, IntKind.wrap_u32]; omega)) | (refine And.intro ?_ ?_; focus (simp only [zl1, zl2, zl3, zl4, zl5, zl6, zl7, zl8, zl9] <;> omega)) | (refine Cnd.tt ?_ ?_; focus (first | (apply decide_eq_true; omega) | (simp only [zq1, zq2, zq3, zq4, zq5, zq6, zq7, zq8, zq9, zq10, zq11, zq12] <;> omega) | rfl)) | (refine Cnd.ff ?_ ?_; focus (first | (apply decide_eq_false; omega) | (simp only [zq1, zq2, zq3, zq4, zq5, zq6, zq7, zq8, zq9, zq10, zq11, zq12] <;> omega) | rfl))))
                      conv => whnf
                      refine ⟨true, 30, fOps (dF a b 0 true y) n, i, k, by rw [hl], rfl, by omega, dF_fit a b 0 n true y (by omega), dF_dep a b 0 n true hR2, ?_⟩
                      rw [hw]
                      repeat ((conv => whnf); (first | refine Cnd.yes ?_ | refine Cnd.no ?_ | refine And.intro rfl ?_ | refine And.intro (by omega) ?_ | (refine And.intro ?_ ?_; focus (simp only [IntKind.wrap_i64, IntKind.wrap_u64, IntKind.wrap_u32]; omega)) | (refine And.intro ?_ ?_; focus (simp only [zl1, zl2, zl3, zl4, zl5, zl6, zl7, zl8, zl9] <;> omega)) | (refine Cnd.tt ?_ ?_; focus (first | (apply decide_eq_true; omega) | (simp only [zq1, zq2, zq3, zq4, zq5, zq6, zq7, zq8, zq9, zq10, zq11, zq12] <;> omega) | rfl)) | (refine Cnd.ff ?_ ?_; focus (first | (apply decide_eq_false; omega) | (simp only [zq1, zq2, zq3, zq4, zq5, zq6, zq7, zq8, zq9, zq10, zq11, zq12] <;> omega) | rfl))))
                      conv => whnf
                      (refine ⟨(fun s : Nat => n - s) (k + 1), [0], tmk 132 0 ((fun s : Nat => [(0, .v (.int .i64 n)), (1, .v (.int .i64 a)), (2, .v (.int .i64 b)), (11, .v (.bool true)), (12, .slc 0 13 0 n), (14, .v (.int .i64 9)), (15, .v (.int .i64 i)), (16, .v (.int .i64 s))]) (k + 1)), (fun s : Nat => [Ent.row true 30 ock ((fOps (dF a b 0 true y) n).map orow)]) (k + 1), ?_, ?_⟩; focus (first | (simp only []; omega) | omega))
                      repeat ((conv => whnf); (first | refine Cnd.yes ?_ | refine Cnd.no ?_ | refine And.intro rfl ?_ | refine And.intro (by omega) ?_ | (refine And.intro ?_ ?_; focus (simp only [IntKind.wrap_i64, IntKind.wrap_u64, IntKind.wrap_u32]; omega)) | (refine And.intro ?_ ?_; focus (simp only [zl1, zl2, zl3, zl4, zl5, zl6, zl7, zl8, zl9] <;> omega))))
                      conv => whnf
                      exact ⟨k + 1, ⟨by omega, hkn⟩, rfl, rfl, (tmkK_eq _ _ _ _).mpr rfl, rfl⟩
                  · rw [if_neg (fun h => q1 h.1)] at hw
                    repeat ((conv => whnf); (first | refine Cnd.yes ?_ | refine Cnd.no ?_ | refine And.intro rfl ?_ | refine And.intro (by omega) ?_ | (refine And.intro ?_ ?_; focus (simp only [IntKind.wrap_i64, IntKind.wrap_u64, IntKind.wrap_u32]; omega)) | (refine And.intro ?_ ?_; focus (simp only [zl1, zl2, zl3, zl4, zl5, zl6, zl7, zl8, zl9] <;> omega)) | (refine Cnd.tt ?_ ?_; focus (first | (apply decide_eq_true; omega) | (simp only [zq1, zq2, zq3, zq4, zq5, zq6, zq7, zq8, zq9, zq10, zq11, zq12] <;> omega) | rfl)) | (refine Cnd.ff ?_ ?_; focus (first | (apply decide_eq_false; omega) | (simp only [zq1, zq2, zq3, zq4, zq5, zq6, zq7, zq8, zq9, zq10, zq11, zq12] <;> omega) | rfl))))
                    conv => whnf
                    refine ⟨true, 30, fOps (dF a b 0 true y) n, i, k, by rw [hl], rfl, by omega, dF_fit a b 0 n true y (by omega), dF_dep a b 0 n true hR2, ?_⟩
                    rw [hw]
                    repeat ((conv => whnf); (first | refine Cnd.yes ?_ | refine Cnd.no ?_ | refine And.intro rfl ?_ | refine And.intro (by omega) ?_ | (refine And.intro ?_ ?_; focus (simp only [IntKind.wrap_i64, IntKind.wrap_u64, IntKind.wrap_u32]; omega)) | (refine And.intro ?_ ?_; focus (simp only [zl1, zl2, zl3, zl4, zl5, zl6, zl7, zl8, zl9] <;> omega)) | (refine Cnd.tt ?_ ?_; focus (first | (apply decide_eq_true; omega) | (simp only [zq1, zq2, zq3, zq4, zq5, zq6, zq7, zq8, zq9, zq10, zq11, zq12] <;> omega) | rfl)) | (refine Cnd.ff ?_ ?_; focus (first | (apply decide_eq_false; omega) | (simp only [zq1, zq2, zq3, zq4, zq5, zq6, zq7, zq8, zq9, zq10, zq11, zq12] <;> omega) | rfl))))
                    conv => whnf
                    (refine ⟨(fun s : Nat => n - s) (k + 1), [0], tmk 132 0 ((fun s : Nat => [(0, .v (.int .i64 n)), (1, .v (.int .i64 a)), (2, .v (.int .i64 b)), (11, .v (.bool true)), (12, .slc 0 13 0 n), (14, .v (.int .i64 9)), (15, .v (.int .i64 i)), (16, .v (.int .i64 s))]) (k + 1)), (fun s : Nat => [Ent.row true 30 ock ((fOps (dF a b 0 true y) n).map orow)]) (k + 1), ?_, ?_⟩; focus (first | (simp only []; omega) | omega))
                    repeat ((conv => whnf); (first | refine Cnd.yes ?_ | refine Cnd.no ?_ | refine And.intro rfl ?_ | refine And.intro (by omega) ?_ | (refine And.intro ?_ ?_; focus (simp only [IntKind.wrap_i64, IntKind.wrap_u64, IntKind.wrap_u32]; omega)) | (refine And.intro ?_ ?_; focus (simp only [zl1, zl2, zl3, zl4, zl5, zl6, zl7, zl8, zl9] <;> omega))))
                    conv => whnf
                    exact ⟨k + 1, ⟨by omega, hkn⟩, rfl, rfl, (tmkK_eq _ _ _ _).mpr rfl, rfl⟩
                · repeat ((conv => whnf); (first | refine Cnd.yes ?_ | refine Cnd.no ?_ | refine And.intro rfl ?_ | refine And.intro (by omega) ?_ | (refine And.intro ?_ ?_; focus (simp only [IntKind.wrap_i64, IntKind.wrap_u64, IntKind.wrap_u32]; omega)) | (refine And.intro ?_ ?_; focus (simp only [zl1, zl2, zl3, zl4, zl5, zl6, zl7, zl8, zl9] <;> omega)) | (refine Cnd.tt ?_ ?_; focus (first | (apply decide_eq_true; omega) | (simp only [zq1, zq2, zq3, zq4, zq5, zq6, zq7, zq8, zq9, zq10, zq11, zq12] <;> omega) | rfl)) | (refine Cnd.ff ?_ ?_; focus (first | (apply decide_eq_false; omega) | (simp only [zq1, zq2, zq3, zq4, zq5, zq6, zq7, zq8, zq9, zq10, zq11, zq12] <;> omega) | rfl))))
                  conv => whnf
                  (refine ⟨(fun s : Nat => n - s) ((i + 1)), [0], tmk 132 0 ((fun s : Nat => [(0, .v (.int .i64 n)), (1, .v (.int .i64 a)), (2, .v (.int .i64 b)), (11, .v (.bool true)), (12, .slc 0 13 0 n), (14, .v (.int .i64 9)), (15, .v (.int .i64 s))]) ((i + 1))), (fun s : Nat => [Ent.row true 30 ock ((fOps (dF a b 0 true y) n).map orow)]) ((i + 1)), ?_, ?_⟩; focus (first | (simp only []; omega) | omega))
                  repeat ((conv => whnf); (first | refine Cnd.yes ?_ | refine Cnd.no ?_ | refine And.intro rfl ?_ | refine And.intro (by omega) ?_ | (refine And.intro ?_ ?_; focus (simp only [IntKind.wrap_i64, IntKind.wrap_u64, IntKind.wrap_u32]; omega)) | (refine And.intro ?_ ?_; focus (simp only [zl1, zl2, zl3, zl4, zl5, zl6, zl7, zl8, zl9] <;> omega))))
                  conv => whnf
                  exact ⟨i + 1, hin, rfl, rfl, (tmkK_eq _ _ _ _).mpr rfl, rfl⟩
            · repeat ((conv => whnf); (first | refine Cnd.yes ?_ | refine Cnd.no ?_ | refine And.intro rfl ?_ | refine And.intro (by omega) ?_ | (refine And.intro ?_ ?_; focus (simp only [IntKind.wrap_i64, IntKind.wrap_u64, IntKind.wrap_u32]; omega)) | (refine And.intro ?_ ?_; focus (simp only [zl1, zl2, zl3, zl4, zl5, zl6, zl7, zl8, zl9] <;> omega)) | (refine Cnd.tt ?_ ?_; focus (first | (apply decide_eq_true; omega) | (simp only [zq1, zq2, zq3, zq4, zq5, zq6, zq7, zq8, zq9, zq10, zq11, zq12] <;> omega) | rfl)) | (refine Cnd.ff ?_ ?_; focus (first | (apply decide_eq_false; omega) | (simp only [zq1, zq2, zq3, zq4, zq5, zq6, zq7, zq8, zq9, zq10, zq11, zq12] <;> omega) | rfl))))
              conv => whnf
              refine ⟨true, 30, fOps (dF a b 0 true y) n, b, a, by rw [hl], rfl, by omega, dF_fit a b 0 n true y (by omega), dF_dep a b 0 n true hR2, ?_⟩
              rw [whyN_out (by omega)]
              repeat ((conv => whnf); (first | refine Cnd.yes ?_ | refine Cnd.no ?_ | refine And.intro rfl ?_ | refine And.intro (by omega) ?_ | (refine And.intro ?_ ?_; focus (simp only [IntKind.wrap_i64, IntKind.wrap_u64, IntKind.wrap_u32]; omega)) | (refine And.intro ?_ ?_; focus (simp only [zl1, zl2, zl3, zl4, zl5, zl6, zl7, zl8, zl9] <;> omega)) | (refine Cnd.tt ?_ ?_; focus (first | (apply decide_eq_true; omega) | (simp only [zq1, zq2, zq3, zq4, zq5, zq6, zq7, zq8, zq9, zq10, zq11, zq12] <;> omega) | rfl)) | (refine Cnd.ff ?_ ?_; focus (first | (apply decide_eq_false; omega) | (simp only [zq1, zq2, zq3, zq4, zq5, zq6, zq7, zq8, zq9, zq10, zq11, zq12] <;> omega) | rfl))))
              conv => whnf
              refine ⟨true, 30, fOps (dF a b 0 true y) n, a, a, by rw [hl], rfl, by omega, dF_fit a b 0 n true y (by omega), dF_dep a b 0 n true hR2, ?_⟩
              rw [whyN_out (by omega)]
              repeat ((conv => whnf); (first | refine Cnd.yes ?_ | refine Cnd.no ?_ | refine And.intro rfl ?_ | refine And.intro (by omega) ?_ | (refine And.intro ?_ ?_; focus (simp only [IntKind.wrap_i64, IntKind.wrap_u64, IntKind.wrap_u32]; omega)) | (refine And.intro ?_ ?_; focus (simp only [zl1, zl2, zl3, zl4, zl5, zl6, zl7, zl8, zl9] <;> omega)) | (refine Cnd.tt ?_ ?_; focus (first | (apply decide_eq_true; omega) | (simp only [zq1, zq2, zq3, zq4, zq5, zq6, zq7, zq8, zq9, zq10, zq11, zq12] <;> omega) | rfl)) | (refine Cnd.ff ?_ ?_; focus (first | (apply decide_eq_false; omega) | (simp only [zq1, zq2, zq3, zq4, zq5, zq6, zq7, zq8, zq9, zq10, zq11, zq12] <;> omega) | rfl))))
              conv => whnf
              refine ⟨true, 30, fOps (dF a b 0 true y) n, -1, b, by rw [hl], rfl, by omega, dF_fit a b 0 n true y (by omega), dF_dep a b 0 n true hR2, ?_⟩
              rw [whyN_out (by omega)]
              repeat ((conv => whnf); (first | refine Cnd.yes ?_ | refine Cnd.no ?_ | refine And.intro rfl ?_ | refine And.intro (by omega) ?_ | (refine And.intro ?_ ?_; focus (simp only [IntKind.wrap_i64, IntKind.wrap_u64, IntKind.wrap_u32]; omega)) | (refine And.intro ?_ ?_; focus (simp only [zl1, zl2, zl3, zl4, zl5, zl6, zl7, zl8, zl9] <;> omega)) | (refine Cnd.tt ?_ ?_; focus (first | (apply decide_eq_true; omega) | (simp only [zq1, zq2, zq3, zq4, zq5, zq6, zq7, zq8, zq9, zq10, zq11, zq12] <;> omega) | rfl)) | (refine Cnd.ff ?_ ?_; focus (first | (apply decide_eq_false; omega) | (simp only [zq1, zq2, zq3, zq4, zq5, zq6, zq7, zq8, zq9, zq10, zq11, zq12] <;> omega) | rfl))))
              conv => whnf
              refine ⟨true, 30, fOps (dF a b 0 true y) n, a, n, by rw [hl], rfl, by omega, dF_fit a b 0 n true y (by omega), dF_dep a b 0 n true hR2, ?_⟩
              rw [whyN_out (by omega)]
              repeat ((conv => whnf); (first | refine Cnd.yes ?_ | refine Cnd.no ?_ | refine And.intro rfl ?_ | refine And.intro (by omega) ?_ | (refine And.intro ?_ ?_; focus (simp only [IntKind.wrap_i64, IntKind.wrap_u64, IntKind.wrap_u32]; omega)) | (refine And.intro ?_ ?_; focus (simp only [zl1, zl2, zl3, zl4, zl5, zl6, zl7, zl8, zl9] <;> omega)) | (refine Cnd.tt ?_ ?_; focus (first | (apply decide_eq_true; omega) | (simp only [zq1, zq2, zq3, zq4, zq5, zq6, zq7, zq8, zq9, zq10, zq11, zq12] <;> omega) | rfl)) | (refine Cnd.ff ?_ ?_; focus (first | (apply decide_eq_false; omega) | (simp only [zq1, zq2, zq3, zq4, zq5, zq6, zq7, zq8, zq9, zq10, zq11, zq12] <;> omega) | rfl))))
              conv => whnf
              exact hK _ _
        · repeat ((conv => whnf); (first | refine Cnd.yes ?_ | refine Cnd.no ?_ | refine And.intro rfl ?_ | refine And.intro (by omega) ?_ | (refine And.intro ?_ ?_; focus (simp only [IntKind.wrap_i64, IntKind.wrap_u64, IntKind.wrap_u32]; omega)) | (refine And.intro ?_ ?_; focus (simp only [zl1, zl2, zl3, zl4, zl5, zl6, zl7, zl8, zl9] <;> omega)) | (refine Cnd.tt ?_ ?_; focus (first | (apply decide_eq_true; omega) | (simp only [zq1, zq2, zq3, zq4, zq5, zq6, zq7, zq8, zq9, zq10, zq11, zq12] <;> omega) | rfl)) | (refine Cnd.ff ?_ ?_; focus (first | (apply decide_eq_false; omega) | (simp only [zq1, zq2, zq3, zq4, zq5, zq6, zq7, zq8, zq9, zq10, zq11, zq12] <;> omega) | rfl))))
          conv => whnf
          intro y M2 hM2 hR2
          replace hR2 : Vc.RowsIn M2 3 [.int .i64] y [[Value.int .i64 a]] := hR2
          repeat ((conv => whnf); (first | refine Cnd.yes ?_ | refine Cnd.no ?_ | refine And.intro rfl ?_ | refine And.intro (by omega) ?_ | (refine And.intro ?_ ?_; focus (simp only [IntKind.wrap_i64, IntKind.wrap_u64, IntKind.wrap_u32]; omega)) | (refine And.intro ?_ ?_; focus (simp only [zl1, zl2, zl3, zl4, zl5, zl6, zl7, zl8, zl9] <;> omega)) | (refine Cnd.tt ?_ ?_; focus (first | (apply decide_eq_true; omega) | (simp only [zq1, zq2, zq3, zq4, zq5, zq6, zq7, zq8, zq9, zq10, zq11, zq12] <;> omega) | rfl)) | (refine Cnd.ff ?_ ?_; focus (first | (apply decide_eq_false; omega) | (simp only [zq1, zq2, zq3, zq4, zq5, zq6, zq7, zq8, zq9, zq10, zq11, zq12] <;> omega) | rfl))))
          conv => whnf
          rw [f1_true hbn, rowsD a true y hbn]
          have hl := fOps_len (dF a b 1 true y) n
          refine ⟨InvS 132 (fun s : Nat => n - s) (fun s : Nat => s ≤ n) (fun s : Nat => [(0, .v (.int .i64 n)), (1, .v (.int .i64 a)), (2, .v (.int .i64 b)), (11, .v (.bool true)), (12, .slc 0 13 0 n), (14, .v (.int .i64 10)), (15, .v (.int .i64 s))]) (fun s : Nat => [Ent.row true 30 ock ((fOps (dF a b 1 true y) n).map orow)]) M2, ⟨(fun s : Nat => n - s) 0, [0], tmk 132 0 ((fun s : Nat => [(0, .v (.int .i64 n)), (1, .v (.int .i64 a)), (2, .v (.int .i64 b)), (11, .v (.bool true)), (12, .slc 0 13 0 n), (14, .v (.int .i64 10)), (15, .v (.int .i64 s))]) 0), (fun s : Nat => [Ent.row true 30 ock ((fOps (dF a b 1 true y) n).map orow)]) 0, ?_⟩, ?_⟩
          · repeat ((conv => whnf); (first | refine Cnd.yes ?_ | refine Cnd.no ?_ | refine And.intro rfl ?_ | refine And.intro (by omega) ?_ | (refine And.intro ?_ ?_; focus (simp only [IntKind.wrap_i64, IntKind.wrap_u64, IntKind.wrap_u32]; omega)) | (refine And.intro ?_ ?_; focus (simp only [zl1, zl2, zl3, zl4, zl5, zl6, zl7, zl8, zl9] <;> omega))))
            conv => whnf
            exact ⟨0, Nat.zero_le _, rfl, rfl, (tmkK_eq _ _ _ _).mpr rfl, rfl⟩
          · rintro cnt tm hp M1 ⟨i, hC_, rfl, rfl, htm, hhp_⟩
            replace hC_ : i ≤ n := hC_
            have hi2 := hC_
            replace htm : tmkK 132 0 [(0, .v (.int .i64 n)), (1, .v (.int .i64 a)), (2, .v (.int .i64 b)), (11, .v (.bool true)), (12, .slc 0 13 0 n), (14, .v (.int .i64 10)), (15, .v (.int .i64 i))] (fun l => tm = l) := htm
            conv at htm => whnf
            subst htm
            replace hhp_ : hp = [Ent.row true 30 ock ((fOps (dF a b 1 true y) n).map orow)] := hhp_
            subst hhp_
            repeat ((conv => whnf); (first | refine Cnd.yes ?_ | refine Cnd.no ?_ | refine And.intro rfl ?_ | refine And.intro (by omega) ?_ | (refine And.intro ?_ ?_; focus (simp only [IntKind.wrap_i64, IntKind.wrap_u64, IntKind.wrap_u32]; omega)) | (refine And.intro ?_ ?_; focus (simp only [zl1, zl2, zl3, zl4, zl5, zl6, zl7, zl8, zl9] <;> omega)) | (refine Cnd.tt ?_ ?_; focus (first | (apply decide_eq_true; omega) | (simp only [zq1, zq2, zq3, zq4, zq5, zq6, zq7, zq8, zq9, zq10, zq11, zq12] <;> omega) | rfl)) | (refine Cnd.ff ?_ ?_; focus (first | (apply decide_eq_false; omega) | (simp only [zq1, zq2, zq3, zq4, zq5, zq6, zq7, zq8, zq9, zq10, zq11, zq12] <;> omega) | rfl))))
            conv => whnf
            refine Cnd.mk (fun hlt => ?_) fun hge2 => ?_
            · have hin : i < n := by have := of_decide_eq_true hlt; omega
              have e5 : IntKind.i64.wrap ((i : Int) + 1) = ((i + 1 : Nat) : Int) := by rw [IntKind.wrap_i64]; omega
              repeat ((conv => whnf); (first | refine Cnd.yes ?_ | refine Cnd.no ?_ | refine And.intro rfl ?_ | refine And.intro (by omega) ?_ | (refine And.intro ?_ ?_; focus (simp only [IntKind.wrap_i64, IntKind.wrap_u64, IntKind.wrap_u32]; omega)) | (refine And.intro ?_ ?_; focus (simp only [zl1, zl2, zl3, zl4, zl5, zl6, zl7, zl8, zl9] <;> omega)) | (refine Cnd.tt ?_ ?_; focus (first | (apply decide_eq_true; omega) | (simp only [zq1, zq2, zq3, zq4, zq5, zq6, zq7, zq8, zq9, zq10, zq11, zq12] <;> omega) | rfl)) | (refine Cnd.ff ?_ ?_; focus (first | (apply decide_eq_false; omega) | (simp only [zq1, zq2, zq3, zq4, zq5, zq6, zq7, zq8, zq9, zq10, zq11, zq12] <;> omega) | rfl))))
              conv => whnf
              rw [e5]
              refine ⟨InvS 132 (fun s : Nat => n - s) (fun s : Nat => i + 1 ≤ s ∧ s ≤ n) (fun s : Nat => [(0, .v (.int .i64 n)), (1, .v (.int .i64 a)), (2, .v (.int .i64 b)), (11, .v (.bool true)), (12, .slc 0 13 0 n), (14, .v (.int .i64 10)), (15, .v (.int .i64 i)), (16, .v (.int .i64 s))]) (fun s : Nat => [Ent.row true 30 ock ((fOps (dF a b 1 true y) n).map orow)]) M1, ⟨(fun s : Nat => n - s) (i + 1), [0], tmk 132 0 ((fun s : Nat => [(0, .v (.int .i64 n)), (1, .v (.int .i64 a)), (2, .v (.int .i64 b)), (11, .v (.bool true)), (12, .slc 0 13 0 n), (14, .v (.int .i64 10)), (15, .v (.int .i64 i)), (16, .v (.int .i64 s))]) (i + 1)), (fun s : Nat => [Ent.row true 30 ock ((fOps (dF a b 1 true y) n).map orow)]) (i + 1), ?_⟩, ?_⟩
              · repeat ((conv => whnf); (first | refine Cnd.yes ?_ | refine Cnd.no ?_ | refine And.intro rfl ?_ | refine And.intro (by omega) ?_ | (refine And.intro ?_ ?_; focus (simp only [IntKind.wrap_i64, IntKind.wrap_u64, IntKind.wrap_u32]; omega)) | (refine And.intro ?_ ?_; focus (simp only [zl1, zl2, zl3, zl4, zl5, zl6, zl7, zl8, zl9] <;> omega))))
                conv => whnf
                exact ⟨i + 1, ⟨Nat.le_refl _, hin⟩, rfl, rfl, (tmkK_eq _ _ _ _).mpr rfl, rfl⟩
              · rintro cnt tm hp M1 ⟨k, hC_, rfl, rfl, htm, hhp_⟩
                replace hC_ : i + 1 ≤ k ∧ k ≤ n := hC_
                obtain ⟨hk1,hk2⟩ := hC_
                replace htm : tmkK 132 0 [(0, .v (.int .i64 n)), (1, .v (.int .i64 a)), (2, .v (.int .i64 b)), (11, .v (.bool true)), (12, .slc 0 13 0 n), (14, .v (.int .i64 10)), (15, .v (.int .i64 i)), (16, .v (.int .i64 k))] (fun l => tm = l) := htm
                conv at htm => whnf
                subst htm
                replace hhp_ : hp = [Ent.row true 30 ock ((fOps (dF a b 1 true y) n).map orow)] := hhp_
                subst hhp_
                repeat ((conv => whnf); (first | refine Cnd.yes ?_ | refine Cnd.no ?_ | refine And.intro rfl ?_ | refine And.intro (by omega) ?_ | (refine And.intro ?_ ?_; focus (simp only [IntKind.wrap_i64, IntKind.wrap_u64, IntKind.wrap_u32]; omega)) | (refine And.intro ?_ ?_; focus (simp only [zl1, zl2, zl3, zl4, zl5, zl6, zl7, zl8, zl9] <;> omega)) | (refine Cnd.tt ?_ ?_; focus (first | (apply decide_eq_true; omega) | (simp only [zq1, zq2, zq3, zq4, zq5, zq6, zq7, zq8, zq9, zq10, zq11, zq12] <;> omega) | rfl)) | (refine Cnd.ff ?_ ?_; focus (first | (apply decide_eq_false; omega) | (simp only [zq1, zq2, zq3, zq4, zq5, zq6, zq7, zq8, zq9, zq10, zq11, zq12] <;> omega) | rfl))))
                conv => whnf
                refine Cnd.mk (fun hlt2 => ?_) fun hge3 => ?_
                · have hkn : k < n := by have := of_decide_eq_true hlt2; omega
                  have hw := dF_why a b 1 n true y (show i < k by omega) hkn
                  by_cases q1 : i = a
                  · by_cases q2 : k = b
                    · rw [if_pos ⟨q1, q2⟩] at hw
                      repeat ((conv => whnf); (first | refine Cnd.yes ?_ | refine Cnd.no ?_ | refine And.intro rfl ?_ | refine And.intro (by omega) ?_ | (refine And.intro ?_ ?_; focus (simp only [IntKind.wrap_i64, IntKind.wrap_u64, IntKind.wrap_u32]; omega)) | (refine And.intro ?_ ?_; focus (simp only [zl1, zl2, zl3, zl4, zl5, zl6, zl7, zl8, zl9] <;> omega)) | (refine Cnd.tt ?_ ?_; focus (first | (apply decide_eq_true; omega) | (simp only [zq1, zq2, zq3, zq4, zq5, zq6, zq7, zq8, zq9, zq10, zq11, zq12] <;> omega) | rfl)) | (refine Cnd.ff ?_ ?_; focus (first | (apply decide_eq_false; omega) | (simp only [zq1, zq2, zq3, zq4, zq5, zq6, zq7, zq8, zq9, zq10, zq11, zq12] <;> omega) | rfl))))
                      conv => whnf
                      refine ⟨true, 30, fOps (dF a b 1 true y) n, i, k, by rw [hl], rfl, by omega, dF_fit a b 1 n true y (by omega), dF_dep a b 1 n true hR2, ?_⟩
                      rw [hw, show wantD 1 true = 10 from rfl]
                      repeat ((conv => whnf); (first | refine Cnd.yes ?_ | refine Cnd.no ?_ | refine And.intro rfl ?_ | refine And.intro (by omega) ?_ | (refine And.intro ?_ ?_; focus (simp only [IntKind.wrap_i64, IntKind.wrap_u64, IntKind.wrap_u32]; omega)) | (refine And.intro ?_ ?_; focus (simp only [zl1, zl2, zl3, zl4, zl5, zl6, zl7, zl8, zl9] <;> omega)) | (refine Cnd.tt ?_ ?_; focus (first | (apply decide_eq_true; omega) | (simp only [zq1, zq2, zq3, zq4, zq5, zq6, zq7, zq8, zq9, zq10, zq11, zq12] <;> omega) | rfl)) | (refine Cnd.ff ?_ ?_; focus (first | (apply decide_eq_false; omega) | (simp only [zq1, zq2, zq3, zq4, zq5, zq6, zq7, zq8, zq9, zq10, zq11, zq12] <;> omega) | rfl))))
                      conv => whnf
                      (refine ⟨(fun s : Nat => n - s) (k + 1), [0], tmk 132 0 ((fun s : Nat => [(0, .v (.int .i64 n)), (1, .v (.int .i64 a)), (2, .v (.int .i64 b)), (11, .v (.bool true)), (12, .slc 0 13 0 n), (14, .v (.int .i64 10)), (15, .v (.int .i64 i)), (16, .v (.int .i64 s))]) (k + 1)), (fun s : Nat => [Ent.row true 30 ock ((fOps (dF a b 1 true y) n).map orow)]) (k + 1), ?_, ?_⟩; focus (first | (simp only []; omega) | omega))
                      repeat ((conv => whnf); (first | refine Cnd.yes ?_ | refine Cnd.no ?_ | refine And.intro rfl ?_ | refine And.intro (by omega) ?_ | (refine And.intro ?_ ?_; focus (simp only [IntKind.wrap_i64, IntKind.wrap_u64, IntKind.wrap_u32]; omega)) | (refine And.intro ?_ ?_; focus (simp only [zl1, zl2, zl3, zl4, zl5, zl6, zl7, zl8, zl9] <;> omega))))
                      conv => whnf
                      exact ⟨k + 1, ⟨by omega, hkn⟩, rfl, rfl, (tmkK_eq _ _ _ _).mpr rfl, rfl⟩
                    · rw [if_neg (fun h => q2 h.2)] at hw
                      repeat ((conv => whnf); (first | refine Cnd.yes ?_ | refine Cnd.no ?_ | refine And.intro rfl ?_ | refine And.intro (by omega) ?_ | (refine And.intro ?_ ?_; focus (simp only [IntKind.wrap_i64, IntKind.wrap_u64, IntKind.wrap_u32]; omega)) | (refine And.intro ?_ ?_; focus (simp only [zl1, zl2, zl3, zl4, zl5, zl6, zl7, zl8, zl9] <;> omega)) | (refine Cnd.tt ?_ ?_; focus (first | (apply decide_eq_true; omega) | (simp only [zq1, zq2, zq3, zq4, zq5, zq6, zq7, zq8, zq9, zq10, zq11, zq12] <;> omega) | rfl)) | (refine Cnd.ff ?_ ?_; focus (first | (apply decide_eq_false; omega) | (simp only [zq1, zq2, zq3, zq4, zq5, zq6, zq7, zq8, zq9, zq10, zq11, zq12] <;> omega) | rfl))))
                      conv => whnf
                      refine ⟨true, 30, fOps (dF a b 1 true y) n, i, k, by rw [hl], rfl, by omega, dF_fit a b 1 n true y (by omega), dF_dep a b 1 n true hR2, ?_⟩
                      rw [hw]
                      repeat ((conv => whnf); (first | refine Cnd.yes ?_ | refine Cnd.no ?_ | refine And.intro rfl ?_ | refine And.intro (by omega) ?_ | (refine And.intro ?_ ?_; focus (simp only [IntKind.wrap_i64, IntKind.wrap_u64, IntKind.wrap_u32]; omega)) | (refine And.intro ?_ ?_; focus (simp only [zl1, zl2, zl3, zl4, zl5, zl6, zl7, zl8, zl9] <;> omega)) | (refine Cnd.tt ?_ ?_; focus (first | (apply decide_eq_true; omega) | (simp only [zq1, zq2, zq3, zq4, zq5, zq6, zq7, zq8, zq9, zq10, zq11, zq12] <;> omega) | rfl)) | (refine Cnd.ff ?_ ?_; focus (first | (apply decide_eq_false; omega) | (simp only [zq1, zq2, zq3, zq4, zq5, zq6, zq7, zq8, zq9, zq10, zq11, zq12] <;> omega) | rfl))))
                      conv => whnf
                      (refine ⟨(fun s : Nat => n - s) (k + 1), [0], tmk 132 0 ((fun s : Nat => [(0, .v (.int .i64 n)), (1, .v (.int .i64 a)), (2, .v (.int .i64 b)), (11, .v (.bool true)), (12, .slc 0 13 0 n), (14, .v (.int .i64 10)), (15, .v (.int .i64 i)), (16, .v (.int .i64 s))]) (k + 1)), (fun s : Nat => [Ent.row true 30 ock ((fOps (dF a b 1 true y) n).map orow)]) (k + 1), ?_, ?_⟩; focus (first | (simp only []; omega) | omega))
                      repeat ((conv => whnf); (first | refine Cnd.yes ?_ | refine Cnd.no ?_ | refine And.intro rfl ?_ | refine And.intro (by omega) ?_ | (refine And.intro ?_ ?_; focus (simp only [IntKind.wrap_i64, IntKind.wrap_u64, IntKind.wrap_u32]; omega)) | (refine And.intro ?_ ?_; focus (simp only [zl1, zl2, zl3, zl4, zl5, zl6, zl7, zl8, zl9] <;> omega))))
                      conv => whnf
                      exact ⟨k + 1, ⟨by omega, hkn⟩, rfl, rfl, (tmkK_eq _ _ _ _).mpr rfl, rfl⟩
                  · rw [if_neg (fun h => q1 h.1)] at hw
                    repeat ((conv => whnf); (first | refine Cnd.yes ?_ | refine Cnd.no ?_ | refine And.intro rfl ?_ | refine And.intro (by omega) ?_ | (refine And.intro ?_ ?_; focus (simp only [IntKind.wrap_i64, IntKind.wrap_u64, IntKind.wrap_u32]; omega)) | (refine And.intro ?_ ?_; focus (simp only [zl1, zl2, zl3, zl4, zl5, zl6, zl7, zl8, zl9] <;> omega)) | (refine Cnd.tt ?_ ?_; focus (first | (apply decide_eq_true; omega) | (simp only [zq1, zq2, zq3, zq4, zq5, zq6, zq7, zq8, zq9, zq10, zq11, zq12] <;> omega) | rfl)) | (refine Cnd.ff ?_ ?_; focus (first | (apply decide_eq_false; omega) | (simp only [zq1, zq2, zq3, zq4, zq5, zq6, zq7, zq8, zq9, zq10, zq11, zq12] <;> omega) | rfl))))
                    conv => whnf
                    refine ⟨true, 30, fOps (dF a b 1 true y) n, i, k, by rw [hl], rfl, by omega, dF_fit a b 1 n true y (by omega), dF_dep a b 1 n true hR2, ?_⟩
                    rw [hw]
                    repeat ((conv => whnf); (first | refine Cnd.yes ?_ | refine Cnd.no ?_ | refine And.intro rfl ?_ | refine And.intro (by omega) ?_ | (refine And.intro ?_ ?_; focus (simp only [IntKind.wrap_i64, IntKind.wrap_u64, IntKind.wrap_u32]; omega)) | (refine And.intro ?_ ?_; focus (simp only [zl1, zl2, zl3, zl4, zl5, zl6, zl7, zl8, zl9] <;> omega)) | (refine Cnd.tt ?_ ?_; focus (first | (apply decide_eq_true; omega) | (simp only [zq1, zq2, zq3, zq4, zq5, zq6, zq7, zq8, zq9, zq10, zq11, zq12] <;> omega) | rfl)) | (refine Cnd.ff ?_ ?_; focus (first | (apply decide_eq_false; omega) | (simp only [zq1, zq2, zq3, zq4, zq5, zq6, zq7, zq8, zq9, zq10, zq11, zq12] <;> omega) | rfl))))
                    conv => whnf
                    (refine ⟨(fun s : Nat => n - s) (k + 1), [0], tmk 132 0 ((fun s : Nat => [(0, .v (.int .i64 n)), (1, .v (.int .i64 a)), (2, .v (.int .i64 b)), (11, .v (.bool true)), (12, .slc 0 13 0 n), (14, .v (.int .i64 10)), (15, .v (.int .i64 i)), (16, .v (.int .i64 s))]) (k + 1)), (fun s : Nat => [Ent.row true 30 ock ((fOps (dF a b 1 true y) n).map orow)]) (k + 1), ?_, ?_⟩; focus (first | (simp only []; omega) | omega))
                    repeat ((conv => whnf); (first | refine Cnd.yes ?_ | refine Cnd.no ?_ | refine And.intro rfl ?_ | refine And.intro (by omega) ?_ | (refine And.intro ?_ ?_; focus (simp only [IntKind.wrap_i64, IntKind.wrap_u64, IntKind.wrap_u32]; omega)) | (refine And.intro ?_ ?_; focus (simp only [zl1, zl2, zl3, zl4, zl5, zl6, zl7, zl8, zl9] <;> omega))))
                    conv => whnf
                    exact ⟨k + 1, ⟨by omega, hkn⟩, rfl, rfl, (tmkK_eq _ _ _ _).mpr rfl, rfl⟩
                · repeat ((conv => whnf); (first | refine Cnd.yes ?_ | refine Cnd.no ?_ | refine And.intro rfl ?_ | refine And.intro (by omega) ?_ | (refine And.intro ?_ ?_; focus (simp only [IntKind.wrap_i64, IntKind.wrap_u64, IntKind.wrap_u32]; omega)) | (refine And.intro ?_ ?_; focus (simp only [zl1, zl2, zl3, zl4, zl5, zl6, zl7, zl8, zl9] <;> omega)) | (refine Cnd.tt ?_ ?_; focus (first | (apply decide_eq_true; omega) | (simp only [zq1, zq2, zq3, zq4, zq5, zq6, zq7, zq8, zq9, zq10, zq11, zq12] <;> omega) | rfl)) | (refine Cnd.ff ?_ ?_; focus (first | (apply decide_eq_false; omega) | (simp only [zq1, zq2, zq3, zq4, zq5, zq6, zq7, zq8, zq9, zq10, zq11, zq12] <;> omega) | rfl))))
                  conv => whnf
                  (refine ⟨(fun s : Nat => n - s) ((i + 1)), [0], tmk 132 0 ((fun s : Nat => [(0, .v (.int .i64 n)), (1, .v (.int .i64 a)), (2, .v (.int .i64 b)), (11, .v (.bool true)), (12, .slc 0 13 0 n), (14, .v (.int .i64 10)), (15, .v (.int .i64 s))]) ((i + 1))), (fun s : Nat => [Ent.row true 30 ock ((fOps (dF a b 1 true y) n).map orow)]) ((i + 1)), ?_, ?_⟩; focus (first | (simp only []; omega) | omega))
                  repeat ((conv => whnf); (first | refine Cnd.yes ?_ | refine Cnd.no ?_ | refine And.intro rfl ?_ | refine And.intro (by omega) ?_ | (refine And.intro ?_ ?_; focus (simp only [IntKind.wrap_i64, IntKind.wrap_u64, IntKind.wrap_u32]; omega)) | (refine And.intro ?_ ?_; focus (simp only [zl1, zl2, zl3, zl4, zl5, zl6, zl7, zl8, zl9] <;> omega))))
                  conv => whnf
                  exact ⟨i + 1, hin, rfl, rfl, (tmkK_eq _ _ _ _).mpr rfl, rfl⟩
            · repeat ((conv => whnf); (first | refine Cnd.yes ?_ | refine Cnd.no ?_ | refine And.intro rfl ?_ | refine And.intro (by omega) ?_ | (refine And.intro ?_ ?_; focus (simp only [IntKind.wrap_i64, IntKind.wrap_u64, IntKind.wrap_u32]; omega)) | (refine And.intro ?_ ?_; focus (simp only [zl1, zl2, zl3, zl4, zl5, zl6, zl7, zl8, zl9] <;> omega)) | (refine Cnd.tt ?_ ?_; focus (first | (apply decide_eq_true; omega) | (simp only [zq1, zq2, zq3, zq4, zq5, zq6, zq7, zq8, zq9, zq10, zq11, zq12] <;> omega) | rfl)) | (refine Cnd.ff ?_ ?_; focus (first | (apply decide_eq_false; omega) | (simp only [zq1, zq2, zq3, zq4, zq5, zq6, zq7, zq8, zq9, zq10, zq11, zq12] <;> omega) | rfl))))
              conv => whnf
              refine ⟨true, 30, fOps (dF a b 1 true y) n, b, a, by rw [hl], rfl, by omega, dF_fit a b 1 n true y (by omega), dF_dep a b 1 n true hR2, ?_⟩
              rw [whyN_out (by omega)]
              repeat ((conv => whnf); (first | refine Cnd.yes ?_ | refine Cnd.no ?_ | refine And.intro rfl ?_ | refine And.intro (by omega) ?_ | (refine And.intro ?_ ?_; focus (simp only [IntKind.wrap_i64, IntKind.wrap_u64, IntKind.wrap_u32]; omega)) | (refine And.intro ?_ ?_; focus (simp only [zl1, zl2, zl3, zl4, zl5, zl6, zl7, zl8, zl9] <;> omega)) | (refine Cnd.tt ?_ ?_; focus (first | (apply decide_eq_true; omega) | (simp only [zq1, zq2, zq3, zq4, zq5, zq6, zq7, zq8, zq9, zq10, zq11, zq12] <;> omega) | rfl)) | (refine Cnd.ff ?_ ?_; focus (first | (apply decide_eq_false; omega) | (simp only [zq1, zq2, zq3, zq4, zq5, zq6, zq7, zq8, zq9, zq10, zq11, zq12] <;> omega) | rfl))))
              conv => whnf
              refine ⟨true, 30, fOps (dF a b 1 true y) n, a, a, by rw [hl], rfl, by omega, dF_fit a b 1 n true y (by omega), dF_dep a b 1 n true hR2, ?_⟩
              rw [whyN_out (by omega)]
              repeat ((conv => whnf); (first | refine Cnd.yes ?_ | refine Cnd.no ?_ | refine And.intro rfl ?_ | refine And.intro (by omega) ?_ | (refine And.intro ?_ ?_; focus (simp only [IntKind.wrap_i64, IntKind.wrap_u64, IntKind.wrap_u32]; omega)) | (refine And.intro ?_ ?_; focus (simp only [zl1, zl2, zl3, zl4, zl5, zl6, zl7, zl8, zl9] <;> omega)) | (refine Cnd.tt ?_ ?_; focus (first | (apply decide_eq_true; omega) | (simp only [zq1, zq2, zq3, zq4, zq5, zq6, zq7, zq8, zq9, zq10, zq11, zq12] <;> omega) | rfl)) | (refine Cnd.ff ?_ ?_; focus (first | (apply decide_eq_false; omega) | (simp only [zq1, zq2, zq3, zq4, zq5, zq6, zq7, zq8, zq9, zq10, zq11, zq12] <;> omega) | rfl))))
              conv => whnf
              refine ⟨true, 30, fOps (dF a b 1 true y) n, -1, b, by rw [hl], rfl, by omega, dF_fit a b 1 n true y (by omega), dF_dep a b 1 n true hR2, ?_⟩
              rw [whyN_out (by omega)]
              repeat ((conv => whnf); (first | refine Cnd.yes ?_ | refine Cnd.no ?_ | refine And.intro rfl ?_ | refine And.intro (by omega) ?_ | (refine And.intro ?_ ?_; focus (simp only [IntKind.wrap_i64, IntKind.wrap_u64, IntKind.wrap_u32]; omega)) | (refine And.intro ?_ ?_; focus (simp only [zl1, zl2, zl3, zl4, zl5, zl6, zl7, zl8, zl9] <;> omega)) | (refine Cnd.tt ?_ ?_; focus (first | (apply decide_eq_true; omega) | (simp only [zq1, zq2, zq3, zq4, zq5, zq6, zq7, zq8, zq9, zq10, zq11, zq12] <;> omega) | rfl)) | (refine Cnd.ff ?_ ?_; focus (first | (apply decide_eq_false; omega) | (simp only [zq1, zq2, zq3, zq4, zq5, zq6, zq7, zq8, zq9, zq10, zq11, zq12] <;> omega) | rfl))))
              conv => whnf
              refine ⟨true, 30, fOps (dF a b 1 true y) n, a, n, by rw [hl], rfl, by omega, dF_fit a b 1 n true y (by omega), dF_dep a b 1 n true hR2, ?_⟩
              rw [whyN_out (by omega)]
              repeat ((conv => whnf); (first | refine Cnd.yes ?_ | refine Cnd.no ?_ | refine And.intro rfl ?_ | refine And.intro (by omega) ?_ | (refine And.intro ?_ ?_; focus (simp only [IntKind.wrap_i64, IntKind.wrap_u64, IntKind.wrap_u32]; omega)) | (refine And.intro ?_ ?_; focus (simp only [zl1, zl2, zl3, zl4, zl5, zl6, zl7, zl8, zl9] <;> omega)) | (refine Cnd.tt ?_ ?_; focus (first | (apply decide_eq_true; omega) | (simp only [zq1, zq2, zq3, zq4, zq5, zq6, zq7, zq8, zq9, zq10, zq11, zq12] <;> omega) | rfl)) | (refine Cnd.ff ?_ ?_; focus (first | (apply decide_eq_false; omega) | (simp only [zq1, zq2, zq3, zq4, zq5, zq6, zq7, zq8, zq9, zq10, zq11, zq12] <;> omega) | rfl))))
              conv => whnf
              exact hK _ _
        · repeat ((conv => whnf); (first | refine Cnd.yes ?_ | refine Cnd.no ?_ | refine And.intro rfl ?_ | refine And.intro (by omega) ?_ | (refine And.intro ?_ ?_; focus (simp only [IntKind.wrap_i64, IntKind.wrap_u64, IntKind.wrap_u32]; omega)) | (refine And.intro ?_ ?_; focus (simp only [zl1, zl2, zl3, zl4, zl5, zl6, zl7, zl8, zl9] <;> omega)) | (refine Cnd.tt ?_ ?_; focus (first | (apply decide_eq_true; omega) | (simp only [zq1, zq2, zq3, zq4, zq5, zq6, zq7, zq8, zq9, zq10, zq11, zq12] <;> omega) | rfl)) | (refine Cnd.ff ?_ ?_; focus (first | (apply decide_eq_false; omega) | (simp only [zq1, zq2, zq3, zq4, zq5, zq6, zq7, zq8, zq9, zq10, zq11, zq12] <;> omega) | rfl))))
          conv => whnf
          intro y M2 hM2 hR2
          replace hR2 : Vc.RowsIn M2 3 [.int .i64] y [[Value.int .i64 a]] := hR2
          repeat ((conv => whnf); (first | refine Cnd.yes ?_ | refine Cnd.no ?_ | refine And.intro rfl ?_ | refine And.intro (by omega) ?_ | (refine And.intro ?_ ?_; focus (simp only [IntKind.wrap_i64, IntKind.wrap_u64, IntKind.wrap_u32]; omega)) | (refine And.intro ?_ ?_; focus (simp only [zl1, zl2, zl3, zl4, zl5, zl6, zl7, zl8, zl9] <;> omega)) | (refine Cnd.tt ?_ ?_; focus (first | (apply decide_eq_true; omega) | (simp only [zq1, zq2, zq3, zq4, zq5, zq6, zq7, zq8, zq9, zq10, zq11, zq12] <;> omega) | rfl)) | (refine Cnd.ff ?_ ?_; focus (first | (apply decide_eq_false; omega) | (simp only [zq1, zq2, zq3, zq4, zq5, zq6, zq7, zq8, zq9, zq10, zq11, zq12] <;> omega) | rfl))))
          conv => whnf
          rw [f1_true hbn, rowsC a true y hbn]
          have hl := fOps_len (dF a b 2 true y) n
          refine ⟨InvS 132 (fun s : Nat => n - s) (fun s : Nat => s ≤ n) (fun s : Nat => [(0, .v (.int .i64 n)), (1, .v (.int .i64 a)), (2, .v (.int .i64 b)), (11, .v (.bool true)), (12, .slc 0 13 0 n), (14, .v (.int .i64 11)), (15, .v (.int .i64 s))]) (fun s : Nat => [Ent.row true 30 ock ((fOps (dF a b 2 true y) n).map orow)]) M2, ⟨(fun s : Nat => n - s) 0, [0], tmk 132 0 ((fun s : Nat => [(0, .v (.int .i64 n)), (1, .v (.int .i64 a)), (2, .v (.int .i64 b)), (11, .v (.bool true)), (12, .slc 0 13 0 n), (14, .v (.int .i64 11)), (15, .v (.int .i64 s))]) 0), (fun s : Nat => [Ent.row true 30 ock ((fOps (dF a b 2 true y) n).map orow)]) 0, ?_⟩, ?_⟩
          · repeat ((conv => whnf); (first | refine Cnd.yes ?_ | refine Cnd.no ?_ | refine And.intro rfl ?_ | refine And.intro (by omega) ?_ | (refine And.intro ?_ ?_; focus (simp only [IntKind.wrap_i64, IntKind.wrap_u64, IntKind.wrap_u32]; omega)) | (refine And.intro ?_ ?_; focus (simp only [zl1, zl2, zl3, zl4, zl5, zl6, zl7, zl8, zl9] <;> omega))))
            conv => whnf
            exact ⟨0, Nat.zero_le _, rfl, rfl, (tmkK_eq _ _ _ _).mpr rfl, rfl⟩
          · rintro cnt tm hp M1 ⟨i, hC_, rfl, rfl, htm, hhp_⟩
            replace hC_ : i ≤ n := hC_
            have hi2 := hC_
            replace htm : tmkK 132 0 [(0, .v (.int .i64 n)), (1, .v (.int .i64 a)), (2, .v (.int .i64 b)), (11, .v (.bool true)), (12, .slc 0 13 0 n), (14, .v (.int .i64 11)), (15, .v (.int .i64 i))] (fun l => tm = l) := htm
            conv at htm => whnf
            subst htm
            replace hhp_ : hp = [Ent.row true 30 ock ((fOps (dF a b 2 true y) n).map orow)] := hhp_
            subst hhp_
            repeat ((conv => whnf); (first | refine Cnd.yes ?_ | refine Cnd.no ?_ | refine And.intro rfl ?_ | refine And.intro (by omega) ?_ | (refine And.intro ?_ ?_; focus (simp only [IntKind.wrap_i64, IntKind.wrap_u64, IntKind.wrap_u32]; omega)) | (refine And.intro ?_ ?_; focus (simp only [zl1, zl2, zl3, zl4, zl5, zl6, zl7, zl8, zl9] <;> omega)) | (refine Cnd.tt ?_ ?_; focus (first | (apply decide_eq_true; omega) | (simp only [zq1, zq2, zq3, zq4, zq5, zq6, zq7, zq8, zq9, zq10, zq11, zq12] <;> omega) | rfl)) | (refine Cnd.ff ?_ ?_; focus (first | (apply decide_eq_false; omega) | (simp only [zq1, zq2, zq3, zq4, zq5, zq6, zq7, zq8, zq9, zq10, zq11, zq12] <;> omega) | rfl))))
            conv => whnf
            refine Cnd.mk (fun hlt => ?_) fun hge2 => ?_
            · have hin : i < n := by have := of_decide_eq_true hlt; omega
              have e5 : IntKind.i64.wrap ((i : Int) + 1) = ((i + 1 : Nat) : Int) := by rw [IntKind.wrap_i64]; omega
              repeat ((conv => whnf); (first | refine Cnd.yes ?_ | refine Cnd.no ?_ | refine And.intro rfl ?_ | refine And.intro (by omega) ?_ | (refine And.intro ?_ ?_; focus (simp only [IntKind.wrap_i64, IntKind.wrap_u64, IntKind.wrap_u32]; omega)) | (refine And.intro ?_ ?_; focus (simp only [zl1, zl2, zl3, zl4, zl5, zl6, zl7, zl8, zl9] <;> omega)) | (refine Cnd.tt ?_ ?_; focus (first | (apply decide_eq_true; omega) | (simp only [zq1, zq2, zq3, zq4, zq5, zq6, zq7, zq8, zq9, zq10, zq11, zq12] <;> omega) | rfl)) | (refine Cnd.ff ?_ ?_; focus (first | (apply decide_eq_false; omega) | (simp only [zq1, zq2, zq3, zq4, zq5, zq6, zq7, zq8, zq9, zq10, zq11, zq12] <;> omega) | rfl))))
              conv => whnf
              rw [e5]
              refine ⟨InvS 132 (fun s : Nat => n - s) (fun s : Nat => i + 1 ≤ s ∧ s ≤ n) (fun s : Nat => [(0, .v (.int .i64 n)), (1, .v (.int .i64 a)), (2, .v (.int .i64 b)), (11, .v (.bool true)), (12, .slc 0 13 0 n), (14, .v (.int .i64 11)), (15, .v (.int .i64 i)), (16, .v (.int .i64 s))]) (fun s : Nat => [Ent.row true 30 ock ((fOps (dF a b 2 true y) n).map orow)]) M1, ⟨(fun s : Nat => n - s) (i + 1), [0], tmk 132 0 ((fun s : Nat => [(0, .v (.int .i64 n)), (1, .v (.int .i64 a)), (2, .v (.int .i64 b)), (11, .v (.bool true)), (12, .slc 0 13 0 n), (14, .v (.int .i64 11)), (15, .v (.int .i64 i)), (16, .v (.int .i64 s))]) (i + 1)), (fun s : Nat => [Ent.row true 30 ock ((fOps (dF a b 2 true y) n).map orow)]) (i + 1), ?_⟩, ?_⟩
              · repeat ((conv => whnf); (first | refine Cnd.yes ?_ | refine Cnd.no ?_ | refine And.intro rfl ?_ | refine And.intro (by omega) ?_ | (refine And.intro ?_ ?_; focus (simp only [IntKind.wrap_i64, IntKind.wrap_u64, IntKind.wrap_u32]; omega)) | (refine And.intro ?_ ?_; focus (simp only [zl1, zl2, zl3, zl4, zl5, zl6, zl7, zl8, zl9] <;> omega))))
                conv => whnf
                exact ⟨i + 1, ⟨Nat.le_refl _, hin⟩, rfl, rfl, (tmkK_eq _ _ _ _).mpr rfl, rfl⟩
              · rintro cnt tm hp M1 ⟨k, hC_, rfl, rfl, htm, hhp_⟩
                replace hC_ : i + 1 ≤ k ∧ k ≤ n := hC_
                obtain ⟨hk1,hk2⟩ := hC_
                replace htm : tmkK 132 0 [(0, .v (.int .i64 n)), (1, .v (.int .i64 a)), (2, .v (.int .i64 b)), (11, .v (.bool true)), (12, .slc 0 13 0 n), (14, .v (.int .i64 11)), (15, .v (.int .i64 i)), (16, .v (.int .i64 k))] (fun l => tm = l) := htm
                conv at htm => whnf
                subst htm
                replace hhp_ : hp = [Ent.row true 30 ock ((fOps (dF a b 2 true y) n).map orow)] := hhp_
                subst hhp_
                repeat ((conv => whnf); (first | refine Cnd.yes ?_ | refine Cnd.no ?_ | refine And.intro rfl ?_ | refine And.intro (by omega) ?_ | (refine And.intro ?_ ?_; focus (simp only [IntKind.wrap_i64, IntKind.wrap_u64, IntKind.wrap_u32]; omega)) | (refine And.intro ?_ ?_; focus (simp only [zl1, zl2, zl3, zl4, zl5, zl6, zl7, zl8, zl9] <;> omega)) | (refine Cnd.tt ?_ ?_; focus (first | (apply decide_eq_true; omega) | (simp only [zq1, zq2, zq3, zq4, zq5, zq6, zq7, zq8, zq9, zq10, zq11, zq12] <;> omega) | rfl)) | (refine Cnd.ff ?_ ?_; focus (first | (apply decide_eq_false; omega) | (simp only [zq1, zq2, zq3, zq4, zq5, zq6, zq7, zq8, zq9, zq10, zq11, zq12] <;> omega) | rfl))))
                conv => whnf
                refine Cnd.mk (fun hlt2 => ?_) fun hge3 => ?_
                · have hkn : k < n := by have := of_decide_eq_true hlt2; omega
                  have hw := dF_why a b 2 n true y (show i < k by omega) hkn
                  by_cases q1 : i = a
                  · by_cases q2 : k = b
                    · rw [if_pos ⟨q1, q2⟩] at hw
                      repeat ((conv => whnf); (first | refine Cnd.yes ?_ | refine Cnd.no ?_ | refine And.intro rfl ?_ | refine And.intro (by omega) ?_ | (refine And.intro ?_ ?_; focus (simp only [IntKind.wrap_i64, IntKind.wrap_u64, IntKind.wrap_u32]; omega)) | (refine And.intro ?_ ?_; focus (simp only [zl1, zl2, zl3, zl4, zl5, zl6, zl7, zl8, zl9] <;> omega)) | (refine Cnd.tt ?_ ?_; focus (first | (apply decide_eq_true; omega) | (simp only [zq1, zq2, zq3, zq4, zq5, zq6, zq7, zq8, zq9, zq10, zq11, zq12] <;> omega) | rfl)) | (refine Cnd.ff ?_ ?_; focus (first | (apply decide_eq_false; omega) | (simp only [zq1, zq2, zq3, zq4, zq5, zq6, zq7, zq8, zq9, zq10, zq11, zq12] <;> omega) | rfl))))
                      conv => whnf
                      refine ⟨true, 30, fOps (dF a b 2 true y) n, i, k, by rw [hl], rfl, by omega, dF_fit a b 2 n true y (by omega), dF_dep a b 2 n true hR2, ?_⟩
                      rw [hw, show wantD 2 true = 11 from rfl]
                      repeat ((conv => whnf); (first | refine Cnd.yes ?_ | refine Cnd.no ?_ | refine And.intro rfl ?_ | refine And.intro (by omega) ?_ | (refine And.intro ?_ ?_; focus (simp only [IntKind.wrap_i64, IntKind.wrap_u64, IntKind.wrap_u32]; omega)) | (refine And.intro ?_ ?_; focus (simp only [zl1, zl2, zl3, zl4, zl5, zl6, zl7, zl8, zl9] <;> omega)) | (refine Cnd.tt ?_ ?_; focus (first | (apply decide_eq_true; omega) | (simp only [zq1, zq2, zq3, zq4, zq5, zq6, zq7, zq8, zq9, zq10, zq11, zq12] <;> omega) | rfl)) | (refine Cnd.ff ?_ ?_; focus (first | (apply decide_eq_false; omega) | (simp only [zq1, zq2, zq3, zq4, zq5, zq6, zq7, zq8, zq9, zq10, zq11, zq12] <;> omega) | rfl))))
                      conv => whnf
                      (refine ⟨(fun s : Nat => n - s) (k + 1), [0], tmk 132 0 ((fun s : Nat => [(0, .v (.int .i64 n)), (1, .v (.int .i64 a)), (2, .v (.int .i64 b)), (11, .v (.bool true)), (12, .slc 0 13 0 n), (14, .v (.int .i64 11)), (15, .v (.int .i64 i)), (16, .v (.int .i64 s))]) (k + 1)), (fun s : Nat => [Ent.row true 30 ock ((fOps (dF a b 2 true y) n).map orow)]) (k + 1), ?_, ?_⟩; focus (first | (simp only []; omega) | omega))
                      repeat ((conv => whnf); (first | refine Cnd.yes ?_ | refine Cnd.no ?_ | refine And.intro rfl ?_ | refine And.intro (by omega) ?_ | (refine And.intro ?_ ?_; focus (simp only [IntKind.wrap_i64, IntKind.wrap_u64, IntKind.wrap_u32]; omega)) | (refine And.intro ?_ ?_; focus (simp only [zl1, zl2, zl3, zl4, zl5, zl6, zl7, zl8, zl9] <;> omega))))
                      conv => whnf
                      exact ⟨k + 1, ⟨by omega, hkn⟩, rfl, rfl, (tmkK_eq _ _ _ _).mpr rfl, rfl⟩
                    · rw [if_neg (fun h => q2 h.2)] at hw
                      repeat ((conv => whnf); (first | refine Cnd.yes ?_ | refine Cnd.no ?_ | refine And.intro rfl ?_ | refine And.intro (by omega) ?_ | (refine And.intro ?_ ?_; focus (simp only [IntKind.wrap_i64, IntKind.wrap_u64, IntKind.wrap_u32]; omega)) | (refine And.intro ?_ ?_; focus (simp only [zl1, zl2, zl3, zl4, zl5, zl6, zl7, zl8, zl9] <;> omega)) | (refine Cnd.tt ?_ ?_; focus (first | (apply decide_eq_true; omega) | (simp only [zq1, zq2, zq3, zq4, zq5, zq6, zq7, zq8, zq9, zq10, zq11, zq12] <;> omega) | rfl)) | (refine Cnd.ff ?_ ?_; focus (first | (apply decide_eq_false; omega) | (simp only [zq1, zq2, zq3, zq4, zq5, zq6, zq7, zq8, zq9, zq10, zq11, zq12] <;> omega) | rfl))))
                      conv => whnf
                      refine ⟨true, 30, fOps (dF a b 2 true y) n, i, k, by rw [hl], rfl, by omega, dF_fit a b 2 n true y (by omega), dF_dep a b 2 n true hR2, ?_⟩
                      rw [hw]
                      repeat ((conv => whnf); (first | refine Cnd.yes ?_ | refine Cnd.no ?_ | refine And.intro rfl ?_ | refine And.intro (by omega) ?_ | (refine And.intro ?_ ?_; focus (simp only [IntKind.wrap_i64, IntKind.wrap_u64, IntKind.wrap_u32]; omega)) | (refine And.intro ?_ ?_; focus (simp only [zl1, zl2, zl3, zl4, zl5, zl6, zl7, zl8, zl9] <;> omega)) | (refine Cnd.tt ?_ ?_; focus (first | (apply decide_eq_true; omega) | (simp only [zq1, zq2, zq3, zq4, zq5, zq6, zq7, zq8, zq9, zq10, zq11, zq12] <;> omega) | rfl)) | (refine Cnd.ff ?_ ?_; focus (first | (apply decide_eq_false; omega) | (simp only [zq1, zq2, zq3, zq4, zq5, zq6, zq7, zq8, zq9, zq10, zq11, zq12] <;> omega) | rfl))))
                      conv => whnf
                      (refine ⟨(fun s : Nat => n - s) (k + 1), [0], tmk 132 0 ((fun s : Nat => [(0, .v (.int .i64 n)), (1, .v (.int .i64 a)), (2, .v (.int .i64 b)), (11, .v (.bool true)), (12, .slc 0 13 0 n), (14, .v (.int .i64 11)), (15, .v (.int .i64 i)), (16, .v (.int .i64 s))]) (k + 1)), (fun s : Nat => [Ent.row true 30 ock ((fOps (dF a b 2 true y) n).map orow)]) (k + 1), ?_, ?_⟩; focus (first | (simp only []; omega) | omega))
                      repeat ((conv => whnf); (first | refine Cnd.yes ?_ | refine Cnd.no ?_ | refine And.intro rfl ?_ | refine And.intro (by omega) ?_ | (refine And.intro ?_ ?_; focus (simp only [IntKind.wrap_i64, IntKind.wrap_u64, IntKind.wrap_u32]; omega)) | (refine And.intro ?_ ?_; focus (simp only [zl1, zl2, zl3, zl4, zl5, zl6, zl7, zl8, zl9] <;> omega))))
                      conv => whnf
                      exact ⟨k + 1, ⟨by omega, hkn⟩, rfl, rfl, (tmkK_eq _ _ _ _).mpr rfl, rfl⟩
                  · rw [if_neg (fun h => q1 h.1)] at hw
                    repeat ((conv => whnf); (first | refine Cnd.yes ?_ | refine Cnd.no ?_ | refine And.intro rfl ?_ | refine And.intro (by omega) ?_ | (refine And.intro ?_ ?_; focus (simp only [IntKind.wrap_i64, IntKind.wrap_u64, IntKind.wrap_u32]; omega)) | (refine And.intro ?_ ?_; focus (simp only [zl1, zl2, zl3, zl4, zl5, zl6, zl7, zl8, zl9] <;> omega)) | (refine Cnd.tt ?_ ?_; focus (first | (apply decide_eq_true; omega) | (simp only [zq1, zq2, zq3, zq4, zq5, zq6, zq7, zq8, zq9, zq10, zq11, zq12] <;> omega) | rfl)) | (refine Cnd.ff ?_ ?_; focus (first | (apply decide_eq_false; omega) | (simp only [zq1, zq2, zq3, zq4, zq5, zq6, zq7, zq8, zq9, zq10, zq11, zq12] <;> omega) | rfl))))
                    conv => whnf
                    refine ⟨true, 30, fOps (dF a b 2 true y) n, i, k, by rw [hl], rfl, by omega, dF_fit a b 2 n true y (by omega), dF_dep a b 2 n true hR2, ?_⟩
                    rw [hw]
                    repeat ((conv => whnf); (first | refine Cnd.yes ?_ | refine Cnd.no ?_ | refine And.intro rfl ?_ | refine And.intro (by omega) ?_ | (refine And.intro ?_ ?_; focus (simp only [IntKind.wrap_i64, IntKind.wrap_u64, IntKind.wrap_u32]; omega)) | (refine And.intro ?_ ?_; focus (simp only [zl1, zl2, zl3, zl4, zl5, zl6, zl7, zl8, zl9] <;> omega)) | (refine Cnd.tt ?_ ?_; focus (first | (apply decide_eq_true; omega) | (simp only [zq1, zq2, zq3, zq4, zq5, zq6, zq7, zq8, zq9, zq10, zq11, zq12] <;> omega) | rfl)) | (refine Cnd.ff ?_ ?_; focus (first | (apply decide_eq_false; omega) | (simp only [zq1, zq2, zq3, zq4, zq5, zq6, zq7, zq8, zq9, zq10, zq11, zq12] <;> omega) | rfl))))
                    conv => whnf
                    (refine ⟨(fun s : Nat => n - s) (k + 1), [0], tmk 132 0 ((fun s : Nat => [(0, .v (.int .i64 n)), (1, .v (.int .i64 a)), (2, .v (.int .i64 b)), (11, .v (.bool true)), (12, .slc 0 13 0 n), (14, .v (.int .i64 11)), (15, .v (.int .i64 i)), (16, .v (.int .i64 s))]) (k + 1)), (fun s : Nat => [Ent.row true 30 ock ((fOps (dF a b 2 true y) n).map orow)]) (k + 1), ?_, ?_⟩; focus (first | (simp only []; omega) | omega))
                    repeat ((conv => whnf); (first | refine Cnd.yes ?_ | refine Cnd.no ?_ | refine And.intro rfl ?_ | refine And.intro (by omega) ?_ | (refine And.intro ?_ ?_; focus (simp only [IntKind.wrap_i64, IntKind.wrap_u64, IntKind.wrap_u32]; omega)) | (refine And.intro ?_ ?_; focus (simp only [zl1, zl2, zl3, zl4, zl5, zl6, zl7, zl8, zl9] <;> omega))))
                    conv => whnf
                    exact ⟨k + 1, ⟨by omega, hkn⟩, rfl, rfl, (tmkK_eq _ _ _ _).mpr rfl, rfl⟩
                · repeat ((conv => whnf); (first | refine Cnd.yes ?_ | refine Cnd.no ?_ | refine And.intro rfl ?_ | refine And.intro (by omega) ?_ | (refine And.intro ?_ ?_; focus (simp only [IntKind.wrap_i64, IntKind.wrap_u64, IntKind.wrap_u32]; omega)) | (refine And.intro ?_ ?_; focus (simp only [zl1, zl2, zl3, zl4, zl5, zl6, zl7, zl8, zl9] <;> omega)) | (refine Cnd.tt ?_ ?_; focus (first | (apply decide_eq_true; omega) | (simp only [zq1, zq2, zq3, zq4, zq5, zq6, zq7, zq8, zq9, zq10, zq11, zq12] <;> omega) | rfl)) | (refine Cnd.ff ?_ ?_; focus (first | (apply decide_eq_false; omega) | (simp only [zq1, zq2, zq3, zq4, zq5, zq6, zq7, zq8, zq9, zq10, zq11, zq12] <;> omega) | rfl))))
                  conv => whnf
                  (refine ⟨(fun s : Nat => n - s) ((i + 1)), [0], tmk 132 0 ((fun s : Nat => [(0, .v (.int .i64 n)), (1, .v (.int .i64 a)), (2, .v (.int .i64 b)), (11, .v (.bool true)), (12, .slc 0 13 0 n), (14, .v (.int .i64 11)), (15, .v (.int .i64 s))]) ((i + 1))), (fun s : Nat => [Ent.row true 30 ock ((fOps (dF a b 2 true y) n).map orow)]) ((i + 1)), ?_, ?_⟩; focus (first | (simp only []; omega) | omega))
                  repeat ((conv => whnf); (first | refine Cnd.yes ?_ | refine Cnd.no ?_ | refine And.intro rfl ?_ | refine And.intro (by omega) ?_ | (refine And.intro ?_ ?_; focus (simp only [IntKind.wrap_i64, IntKind.wrap_u64, IntKind.wrap_u32]; omega)) | (refine And.intro ?_ ?_; focus (simp only [zl1, zl2, zl3, zl4, zl5, zl6, zl7, zl8, zl9] <;> omega))))
                  conv => whnf
                  exact ⟨i + 1, hin, rfl, rfl, (tmkK_eq _ _ _ _).mpr rfl, rfl⟩
            · repeat ((conv => whnf); (first | refine Cnd.yes ?_ | refine Cnd.no ?_ | refine And.intro rfl ?_ | refine And.intro (by omega) ?_ | (refine And.intro ?_ ?_; focus (simp only [IntKind.wrap_i64, IntKind.wrap_u64, IntKind.wrap_u32]; omega)) | (refine And.intro ?_ ?_; focus (simp only [zl1, zl2, zl3, zl4, zl5, zl6, zl7, zl8, zl9] <;> omega)) | (refine Cnd.tt ?_ ?_; focus (first | (apply decide_eq_true; omega) | (simp only [zq1, zq2, zq3, zq4, zq5, zq6, zq7, zq8, zq9, zq10, zq11, zq12] <;> omega) | rfl)) | (refine Cnd.ff ?_ ?_; focus (first | (apply decide_eq_false; omega) | (simp only [zq1, zq2, zq3, zq4, zq5, zq6, zq7, zq8, zq9, zq10, zq11, zq12] <;> omega) | rfl))))
              conv => whnf
              refine ⟨true, 30, fOps (dF a b 2 true y) n, b, a, by rw [hl], rfl, by omega, dF_fit a b 2 n true y (by omega), dF_dep a b 2 n true hR2, ?_⟩
              rw [whyN_out (by omega)]
              repeat ((conv => whnf); (first | refine Cnd.yes ?_ | refine Cnd.no ?_ | refine And.intro rfl ?_ | refine And.intro (by omega) ?_ | (refine And.intro ?_ ?_; focus (simp only [IntKind.wrap_i64, IntKind.wrap_u64, IntKind.wrap_u32]; omega)) | (refine And.intro ?_ ?_; focus (simp only [zl1, zl2, zl3, zl4, zl5, zl6, zl7, zl8, zl9] <;> omega)) | (refine Cnd.tt ?_ ?_; focus (first | (apply decide_eq_true; omega) | (simp only [zq1, zq2, zq3, zq4, zq5, zq6, zq7, zq8, zq9, zq10, zq11, zq12] <;> omega) | rfl)) | (refine Cnd.ff ?_ ?_; focus (first | (apply decide_eq_false; omega) | (simp only [zq1, zq2, zq3, zq4, zq5, zq6, zq7, zq8, zq9, zq10, zq11, zq12] <;> omega) | rfl))))
              conv => whnf
              refine ⟨true, 30, fOps (dF a b 2 true y) n, a, a, by rw [hl], rfl, by omega, dF_fit a b 2 n true y (by omega), dF_dep a b 2 n true hR2, ?_⟩
              rw [whyN_out (by omega)]
              repeat ((conv => whnf); (first | refine Cnd.yes ?_ | refine Cnd.no ?_ | refine And.intro rfl ?_ | refine And.intro (by omega) ?_ | (refine And.intro ?_ ?_; focus (simp only [IntKind.wrap_i64, IntKind.wrap_u64, IntKind.wrap_u32]; omega)) | (refine And.intro ?_ ?_; focus (simp only [zl1, zl2, zl3, zl4, zl5, zl6, zl7, zl8, zl9] <;> omega)) | (refine Cnd.tt ?_ ?_; focus (first | (apply decide_eq_true; omega) | (simp only [zq1, zq2, zq3, zq4, zq5, zq6, zq7, zq8, zq9, zq10, zq11, zq12] <;> omega) | rfl)) | (refine Cnd.ff ?_ ?_; focus (first | (apply decide_eq_false; omega) | (simp only [zq1, zq2, zq3, zq4, zq5, zq6, zq7, zq8, zq9, zq10, zq11, zq12] <;> omega) | rfl))))
              conv => whnf
              refine ⟨true, 30, fOps (dF a b 2 true y) n, -1, b, by rw [hl], rfl, by omega, dF_fit a b 2 n true y (by omega), dF_dep a b 2 n true hR2, ?_⟩
              rw [whyN_out (by omega)]
              repeat ((conv => whnf); (first | refine Cnd.yes ?_ | refine Cnd.no ?_ | refine And.intro rfl ?_ | refine And.intro (by omega) ?_ | (refine And.intro ?_ ?_; focus (simp only [IntKind.wrap_i64, IntKind.wrap_u64, IntKind.wrap_u32]; omega)) | (refine And.intro ?_ ?_; focus (simp only [zl1, zl2, zl3, zl4, zl5, zl6, zl7, zl8, zl9] <;> omega)) | (refine Cnd.tt ?_ ?_; focus (first | (apply decide_eq_true; omega) | (simp only [zq1, zq2, zq3, zq4, zq5, zq6, zq7, zq8, zq9, zq10, zq11, zq12] <;> omega) | rfl)) | (refine Cnd.ff ?_ ?_; focus (first | (apply decide_eq_false; omega) | (simp only [zq1, zq2, zq3, zq4, zq5, zq6, zq7, zq8, zq9, zq10, zq11, zq12] <;> omega) | rfl))))
              conv => whnf
              refine ⟨true, 30, fOps (dF a b 2 true y) n, a, n, by rw [hl], rfl, by omega, dF_fit a b 2 n true y (by omega), dF_dep a b 2 n true hR2, ?_⟩
              rw [whyN_out (by omega)]
              repeat ((conv => whnf); (first | refine Cnd.yes ?_ | refine Cnd.no ?_ | refine And.intro rfl ?_ | refine And.intro (by omega) ?_ | (refine And.intro ?_ ?_; focus (simp only [IntKind.wrap_i64, IntKind.wrap_u64, IntKind.wrap_u32]; omega)) | (refine And.intro ?_ ?_; focus (simp only [zl1, zl2, zl3, zl4, zl5, zl6, zl7, zl8, zl9] <;> omega)) | (refine Cnd.tt ?_ ?_; focus (first | (apply decide_eq_true; omega) | (simp only [zq1, zq2, zq3, zq4, zq5, zq6, zq7, zq8, zq9, zq10, zq11, zq12] <;> omega) | rfl)) | (refine Cnd.ff ?_ ?_; focus (first | (apply decide_eq_false; omega) | (simp only [zq1, zq2, zq3, zq4, zq5, zq6, zq7, zq8, zq9, zq10, zq11, zq12] <;> omega) | rfl))))
              conv => whnf
              exact hK _ _
        · repeat ((conv => whnf); (first | refine Cnd.yes ?_ | refine Cnd.no ?_ | refine And.intro rfl ?_ | refine And.intro (by omega) ?_ | (refine And.intro ?_ ?_; focus (simp only [IntKind.wrap_i64, IntKind.wrap_u64, IntKind.wrap_u32]; omega)) | (refine And.intro ?_ ?_; focus (simp only [zl1, zl2, zl3, zl4, zl5, zl6, zl7, zl8, zl9] <;> omega)) | (refine Cnd.tt ?_ ?_; focus (first | (apply decide_eq_true; omega) | (simp only [zq1, zq2, zq3, zq4, zq5, zq6, zq7, zq8, zq9, zq10, zq11, zq12] <;> omega) | rfl)) | (refine Cnd.ff ?_ ?_; focus (first | (apply decide_eq_false; omega) | (simp only [zq1, zq2, zq3, zq4, zq5, zq6, zq7, zq8, zq9, zq10, zq11, zq12] <;> omega) | rfl))))
          conv => whnf
          rw [f1_true hbn, rows3 a true nilV]
          have hl := fOps_len (dF a b 3 true nilV) n
          refine ⟨InvS 132 (fun s : Nat => n - s) (fun s : Nat => s ≤ n) (fun s : Nat => [(0, .v (.int .i64 n)), (1, .v (.int .i64 a)), (2, .v (.int .i64 b)), (11, .v (.bool true)), (12, .slc 0 13 0 n), (14, .v (.int .i64 0)), (15, .v (.int .i64 s))]) (fun s : Nat => [Ent.row true 30 ock ((fOps (dF a b 3 true nilV) n).map orow)]) M1, ⟨(fun s : Nat => n - s) 0, [0], tmk 132 0 ((fun s : Nat => [(0, .v (.int .i64 n)), (1, .v (.int .i64 a)), (2, .v (.int .i64 b)), (11, .v (.bool true)), (12, .slc 0 13 0 n), (14, .v (.int .i64 0)), (15, .v (.int .i64 s))]) 0), (fun s : Nat => [Ent.row true 30 ock ((fOps (dF a b 3 true nilV) n).map orow)]) 0, ?_⟩, ?_⟩
          · repeat ((conv => whnf); (first | refine Cnd.yes ?_ | refine Cnd.no ?_ | refine And.intro rfl ?_ | refine And.intro (by omega) ?_ | (refine And.intro ?_ ?_; focus (simp only [IntKind.wrap_i64, IntKind.wrap_u64, IntKind.wrap_u32]; omega)) | (refine And.intro ?_ ?_; focus (simp only [zl1, zl2, zl3, zl4, zl5, zl6, zl7, zl8, zl9] <;> omega))))
            conv => whnf
            exact ⟨0, Nat.zero_le _, rfl, rfl, (tmkK_eq _ _ _ _).mpr rfl, rfl⟩
          · rintro cnt tm hp M1 ⟨i, hC_, rfl, rfl, htm, hhp_⟩
            replace hC_ : i ≤ n := hC_
            have hi2 := hC_
            replace htm : tmkK 132 0 [(0, .v (.int .i64 n)), (1, .v (.int .i64 a)), (2, .v (.int .i64 b)), (11, .v (.bool true)), (12, .slc 0 13 0 n), (14, .v (.int .i64 0)), (15, .v (.int .i64 i))] (fun l => tm = l) := htm
            conv at htm => whnf
            subst htm
            replace hhp_ : hp = [Ent.row true 30 ock ((fOps (dF a b 3 true nilV) n).map orow)] := hhp_
            subst hhp_
            repeat ((conv => whnf); (first | refine Cnd.yes ?_ | refine Cnd.no ?_ | refine And.intro rfl ?_ | refine And.intro (by omega) ?_ | (refine And.intro ?_ ?_; focus (simp only [IntKind.wrap_i64, IntKind.wrap_u64, IntKind.wrap_u32]; omega)) | (refine And.intro ?_ ?_; focus (simp only [zl1, zl2, zl3, zl4, zl5, zl6, zl7, zl8, zl9] <;> omega)) | (refine Cnd.tt ?_ ?_; focus (first | (apply decide_eq_true; omega) | (simp only [zq1, zq2, zq3, zq4, zq5, zq6, zq7, zq8, zq9, zq10, zq11, zq12] <;> omega) | rfl)) | (refine Cnd.ff ?_ ?_; focus (first | (apply decide_eq_false; omega) | (simp only [zq1, zq2, zq3, zq4, zq5, zq6, zq7, zq8, zq9, zq10, zq11, zq12] <;> omega) | rfl))))
            conv => whnf
            refine Cnd.mk (fun hlt => ?_) fun hge2 => ?_
            · have hin : i < n := by have := of_decide_eq_true hlt; omega
              have e5 : IntKind.i64.wrap ((i : Int) + 1) = ((i + 1 : Nat) : Int) := by rw [IntKind.wrap_i64]; omega
              repeat ((conv => whnf); (first | refine Cnd.yes ?_ | refine Cnd.no ?_ | refine And.intro rfl ?_ | refine And.intro (by omega) ?_ | (refine And.intro ?_ ?_; focus (simp only [IntKind.wrap_i64, IntKind.wrap_u64, IntKind.wrap_u32]; omega)) | (refine And.intro ?_ ?_; focus (simp only [zl1, zl2, zl3, zl4, zl5, zl6, zl7, zl8, zl9] <;> omega)) | (refine Cnd.tt ?_ ?_; focus (first | (apply decide_eq_true; omega) | (simp only [zq1, zq2, zq3, zq4, zq5, zq6, zq7, zq8, zq9, zq10, zq11, zq12] <;> omega) | rfl)) | (refine Cnd.ff ?_ ?_; focus (first | (apply decide_eq_false; omega) | (simp only [zq1, zq2, zq3, zq4, zq5, zq6, zq7, zq8, zq9, zq10, zq11, zq12] <;> omega) | rfl))))
              conv => whnf
              rw [e5]
              refine ⟨InvS 132 (fun s : Nat => n - s) (fun s : Nat => i + 1 ≤ s ∧ s ≤ n) (fun s : Nat => [(0, .v (.int .i64 n)), (1, .v (.int .i64 a)), (2, .v (.int .i64 b)), (11, .v (.bool true)), (12, .slc 0 13 0 n), (14, .v (.int .i64 0)), (15, .v (.int .i64 i)), (16, .v (.int .i64 s))]) (fun s : Nat => [Ent.row true 30 ock ((fOps (dF a b 3 true nilV) n).map orow)]) M1, ⟨(fun s : Nat => n - s) (i + 1), [0], tmk 132 0 ((fun s : Nat => [(0, .v (.int .i64 n)), (1, .v (.int .i64 a)), (2, .v (.int .i64 b)), (11, .v (.bool true)), (12, .slc 0 13 0 n), (14, .v (.int .i64 0)), (15, .v (.int .i64 i)), (16, .v (.int .i64 s))]) (i + 1)), (fun s : Nat => [Ent.row true 30 ock ((fOps (dF a b 3 true nilV) n).map orow)]) (i + 1), ?_⟩, ?_⟩
              · repeat ((conv => whnf); (first | refine Cnd.yes ?_ | refine Cnd.no ?_ | refine And.intro rfl ?_ | refine And.intro (by omega) ?_ | (refine And.intro ?_ ?_; focus (simp only [IntKind.wrap_i64, IntKind.wrap_u64, IntKind.wrap_u32]; omega)) | (refine And.intro ?_ ?_; focus (simp only [zl1, zl2, zl3, zl4, zl5, zl6, zl7, zl8, zl9] <;> omega))))
                conv => whnf
                exact ⟨i + 1, ⟨Nat.le_refl _, hin⟩, rfl, rfl, (tmkK_eq _ _ _ _).mpr rfl, rfl⟩
              · rintro cnt tm hp M1 ⟨k, hC_, rfl, rfl, htm, hhp_⟩
                replace hC_ : i + 1 ≤ k ∧ k ≤ n := hC_
                obtain ⟨hk1,hk2⟩ := hC_
                replace htm : tmkK 132 0 [(0, .v (.int .i64 n)), (1, .v (.int .i64 a)), (2, .v (.int .i64 b)), (11, .v (.bool true)), (12, .slc 0 13 0 n), (14, .v (.int .i64 0)), (15, .v (.int .i64 i)), (16, .v (.int .i64 k))] (fun l => tm = l) := htm
                conv at htm => whnf
                subst htm
                replace hhp_ : hp = [Ent.row true 30 ock ((fOps (dF a b 3 true nilV) n).map orow)] := hhp_
                subst hhp_
                repeat ((conv => whnf); (first | refine Cnd.yes ?_ | refine Cnd.no ?_ | refine And.intro rfl ?_ | refine And.intro (by omega) ?_ | (refine And.intro ?_ ?_; focus (simp only [IntKind.wrap_i64, IntKind.wrap_u64, IntKind.wrap_u32]; omega)) | (refine And.intro ?_ ?_; focus (simp only [zl1, zl2, zl3, zl4, zl5, zl6, zl7, zl8, zl9] <;> omega)) | (refine Cnd.tt ?_ ?_; focus (first | (apply decide_eq_true; omega) | (simp only [zq1, zq2, zq3, zq4, zq5, zq6, zq7, zq8, zq9, zq10, zq11, zq12] <;> omega) | rfl)) | (refine Cnd.ff ?_ ?_; focus (first | (apply decide_eq_false; omega) | (simp only [zq1, zq2, zq3, zq4, zq5, zq6, zq7, zq8, zq9, zq10, zq11, zq12] <;> omega) | rfl))))
                conv => whnf
                refine Cnd.mk (fun hlt2 => ?_) fun hge3 => ?_
                · have hkn : k < n := by have := of_decide_eq_true hlt2; omega
                  have hw := dF_why a b 3 n true nilV (show i < k by omega) hkn
                  by_cases q1 : i = a
                  · by_cases q2 : k = b
                    · rw [if_pos ⟨q1, q2⟩] at hw
                      repeat ((conv => whnf); (first | refine Cnd.yes ?_ | refine Cnd.no ?_ | refine And.intro rfl ?_ | refine And.intro (by omega) ?_ | (refine And.intro ?_ ?_; focus (simp only [IntKind.wrap_i64, IntKind.wrap_u64, IntKind.wrap_u32]; omega)) | (refine And.intro ?_ ?_; focus (simp only [zl1, zl2, zl3, zl4, zl5, zl6, zl7, zl8, zl9] <;> omega)) | (refine Cnd.tt ?_ ?_; focus (first | (apply decide_eq_true; omega) | (simp only [zq1, zq2, zq3, zq4, zq5, zq6, zq7, zq8, zq9, zq10, zq11, zq12] <;> omega) | rfl)) | (refine Cnd.ff ?_ ?_; focus (first | (apply decide_eq_false; omega) | (simp only [zq1, zq2, zq3, zq4, zq5, zq6, zq7, zq8, zq9, zq10, zq11, zq12] <;> omega) | rfl))))
                      conv => whnf
                      refine ⟨true, 30, fOps (dF a b 3 true nilV) n, i, k, by rw [hl], rfl, by omega, dF_fit a b 3 n true nilV (by omega), dF_dep3 _ a b n true nilV, ?_⟩
                      rw [hw, show wantD 3 true = 0 from rfl]
                      repeat ((conv => whnf); (first | refine Cnd.yes ?_ | refine Cnd.no ?_ | refine And.intro rfl ?_ | refine And.intro (by omega) ?_ | (refine And.intro ?_ ?_; focus (simp only [IntKind.wrap_i64, IntKind.wrap_u64, IntKind.wrap_u32]; omega)) | (refine And.intro ?_ ?_; focus (simp only [zl1, zl2, zl3, zl4, zl5, zl6, zl7, zl8, zl9] <;> omega)) | (refine Cnd.tt ?_ ?_; focus (first | (apply decide_eq_true; omega) | (simp only [zq1, zq2, zq3, zq4, zq5, zq6, zq7, zq8, zq9, zq10, zq11, zq12] <;> omega) | rfl)) | (refine Cnd.ff ?_ ?_; focus (first | (apply decide_eq_false; omega) | (simp only [zq1, zq2, zq3, zq4, zq5, zq6, zq7, zq8, zq9, zq10, zq11, zq12] <;> omega) | rfl))))
                      conv => whnf
                      (refine ⟨(fun s : Nat => n - s) (k + 1), [0], tmk 132 0 ((fun s : Nat => [(0, .v (.int .i64 n)), (1, .v (.int .i64 a)), (2, .v (.int .i64 b)), (11, .v (.bool true)), (12, .slc 0 13 0 n), (14, .v (.int .i64 0)), (15, .v (.int .i64 i)), (16, .v (.int .i64 s))]) (k + 1)), (fun s : Nat => [Ent.row true 30 ock ((fOps (dF a b 3 true nilV) n).map orow)]) (k + 1), ?_, ?_⟩; focus (first | (simp only []; omega) | omega))
                      repeat ((conv => whnf); (first | refine Cnd.yes ?_ | refine Cnd.no ?_ | refine And.intro rfl ?_ | refine And.intro (by omega) ?_ | (refine And.intro ?_ ?_; focus (simp only [IntKind.wrap_i64, IntKind.wrap_u64, IntKind.wrap_u32]; omega)) | (refine And.intro ?_ ?_; focus (simp only [zl1, zl2, zl3, zl4, zl5, zl6, zl7, zl8, zl9] <;> omega))))
                      conv => whnf
                      exact ⟨k + 1, ⟨by omega, hkn⟩, rfl, rfl, (tmkK_eq _ _ _ _).mpr rfl, rfl⟩
                    · rw [if_neg (fun h => q2 h.2)] at hw
                      repeat ((conv => whnf); (first | refine Cnd.yes ?_ | refine Cnd.no ?_ | refine And.intro rfl ?_ | refine And.intro (by omega) ?_ | (refine And.intro ?_ ?_; focus (simp only [IntKind.wrap_i64, IntKind.wrap_u64, IntKind.wrap_u32]; omega)) | (refine And.intro ?_ ?_; focus (simp only [zl1, zl2, zl3, zl4, zl5, zl6, zl7, zl8, zl9] <;> omega)) | (refine Cnd.tt ?_ ?_; focus (first | (apply decide_eq_true; omega) | (simp only [zq1, zq2, zq3, zq4, zq5, zq6, zq7, zq8, zq9, zq10, zq11, zq12] <;> omega) | rfl)) | (refine Cnd.ff ?_ ?_; focus (first | (apply decide_eq_false; omega) | (simp only [zq1, zq2, zq3, zq4, zq5, zq6, zq7, zq8, zq9, zq10, zq11, zq12] <;> omega) | rfl))))
                      conv => whnf
                      refine ⟨true, 30, fOps (dF a b 3 true nilV) n, i, k, by rw [hl], rfl, by omega, dF_fit a b 3 n true nilV (by omega), dF_dep3 _ a b n true nilV, ?_⟩
                      rw [hw]
                      repeat ((conv => whnf); (first | refine Cnd.yes ?_ | refine Cnd.no ?_ | refine And.intro rfl ?_ | refine And.intro (by omega) ?_ | (refine And.intro ?_ ?_; focus (simp only [IntKind.wrap_i64, IntKind.wrap_u64, IntKind.wrap_u32]; omega)) | (refine And.intro ?_ ?_; focus (simp only [zl1, zl2, zl3, zl4, zl5, zl6, zl7, zl8, zl9] <;> omega)) | (refine Cnd.tt ?_ ?_; focus (first | (apply decide_eq_true; omega) | (simp only [zq1, zq2, zq3, zq4, zq5, zq6, zq7, zq8, zq9, zq10, zq11, zq12] <;> omega) | rfl)) | (refine Cnd.ff ?_ ?_; focus (first | (apply decide_eq_false; omega) | (simp only [zq1, zq2, zq3, zq4, zq5, zq6, zq7, zq8, zq9, zq10, zq11, zq12] <;> omega) | rfl))))
                      conv => whnf
                      (refine ⟨(fun s : Nat => n - s) (k + 1), [0], tmk 132 0 ((fun s : Nat => [(0, .v (.int .i64 n)), (1, .v (.int .i64 a)), (2, .v (.int .i64 b)), (11, .v (.bool true)), (12, .slc 0 13 0 n), (14, .v (.int .i64 0)), (15, .v (.int .i64 i)), (16, .v (.int .i64 s))]) (k + 1)), (fun s : Nat => [Ent.row true 30 ock ((fOps (dF a b 3 true nilV) n).map orow)]) (k + 1), ?_, ?_⟩; focus (first | (simp only []; omega) | omega))
                      repeat ((conv => whnf); (first | refine Cnd.yes ?_ | refine Cnd.no ?_ | refine And.intro rfl ?_ | refine And.intro (by omega) ?_ | (refine And.intro ?_ ?_; focus (simp only [IntKind.wrap_i64, IntKind.wrap_u64, IntKind.wrap_u32]; omega)) | (refine And.intro ?_ ?_; focus (simp only [zl1, zl2, zl3, zl4, zl5, zl6, zl7, zl8, zl9] <;> omega))))
                      conv => whnf
                      exact ⟨k + 1, ⟨by omega, hkn⟩, rfl, rfl, (tmkK_eq _ _ _ _).mpr rfl, rfl⟩
                  · rw [if_neg (fun h => q1 h.1)] at hw
                    repeat ((conv => whnf); (first | refine Cnd.yes ?_ | refine Cnd.no ?_ | refine And.intro rfl ?_ | refine And.intro (by omega) ?_ | (refine And.intro ?_ ?_; focus (simp only [IntKind.wrap_i64, IntKind.wrap_u64, IntKind.wrap_u32]; omega)) | (refine And.intro ?_ ?_; focus (simp only [zl1, zl2, zl3, zl4, zl5, zl6, zl7, zl8, zl9] <;> omega)) | (refine Cnd.tt ?_ ?_; focus (first | (apply decide_eq_true; omega) | (simp only [zq1, zq2, zq3, zq4, zq5, zq6, zq7, zq8, zq9, zq10, zq11, zq12] <;> omega) | rfl)) | (refine Cnd.ff ?_ ?_; focus (first | (apply decide_eq_false; omega) | (simp only [zq1, zq2, zq3, zq4, zq5, zq6, zq7, zq8, zq9, zq10, zq11, zq12] <;> omega) | rfl))))
                    conv => whnf
                    refine ⟨true, 30, fOps (dF a b 3 true nilV) n, i, k, by rw [hl], rfl, by omega, dF_fit a b 3 n true nilV (by omega), dF_dep3 _ a b n true nilV, ?_⟩
                    rw [hw]
                    repeat ((conv => whnf); (first | refine Cnd.yes ?_ | refine Cnd.no ?_ | refine And.intro rfl ?_ | refine And.intro (by omega) ?_ | (refine And.intro ?_ ?_; focus (simp only [IntKind.wrap_i64, IntKind.wrap_u64, IntKind.wrap_u32]; omega)) | (refine And.intro ?_ ?_; focus (simp only [zl1, zl2, zl3, zl4, zl5, zl6, zl7, zl8, zl9] <;> omega)) | (refine Cnd.tt ?_ ?_; focus (first | (apply decide_eq_true; omega) | (simp only [zq1, zq2, zq3, zq4, zq5, zq6, zq7, zq8, zq9, zq10, zq11, zq12] <;> omega) | rfl)) | (refine Cnd.ff ?_ ?_; focus (first | (apply decide_eq_false; omega) | (simp only [zq1, zq2, zq3, zq4, zq5, zq6, zq7, zq8, zq9, zq10, zq11, zq12] <;> omega) | rfl))))
                    conv => whnf
                    (refine ⟨(fun s : Nat => n - s) (k + 1), [0], tmk 132 0 ((fun s : Nat => [(0, .v (.int .i64 n)), (1, .v (.int .i64 a)), (2, .v (.int .i64 b)), (11, .v (.bool true)), (12, .slc 0 13 0 n), (14, .v (.int .i64 0)), (15, .v (.int .i64 i)), (16, .v (.int .i64 s))]) (k + 1)), (fun s : Nat => [Ent.row true 30 ock ((fOps (dF a b 3 true nilV) n).map orow)]) (k + 1), ?_, ?_⟩; focus (first | (simp only []; omega) | omega))
                    repeat ((conv => whnf); (first | refine Cnd.yes ?_ | refine Cnd.no ?_ | refine And.intro rfl ?_ | refine And.intro (by omega) ?_ | (refine And.intro ?_ ?_; focus (simp only [IntKind.wrap_i64, IntKind.wrap_u64, IntKind.wrap_u32]; omega)) | (refine And.intro ?_ ?_; focus (simp only [zl1, zl2, zl3, zl4, zl5, zl6, zl7, zl8, zl9] <;> omega))))
                    conv => whnf
                    exact ⟨k + 1, ⟨by omega, hkn⟩, rfl, rfl, (tmkK_eq _ _ _ _).mpr rfl, rfl⟩
                · repeat ((conv => whnf); (first | refine Cnd.yes ?_ | refine Cnd.no ?_ | refine And.intro rfl ?_ | refine And.intro (by omega) ?_ | (refine And.intro ?_ ?_; focus (simp only [IntKind.wrap_i64, IntKind.wrap_u64, IntKind.wrap_u32]; omega)) | (refine And.intro ?_ ?_; focus (simp only [zl1, zl2, zl3, zl4, zl5, zl6, zl7, zl8, zl9] <;> omega)) | (refine Cnd.tt ?_ ?_; focus (first | (apply decide_eq_true; omega) | (simp only [zq1, zq2, zq3, zq4, zq5, zq6, zq7, zq8, zq9, zq10, zq11, zq12] <;> omega) | rfl)) | (refine Cnd.ff ?_ ?_; focus (first | (apply decide_eq_false; omega) | (simp only [zq1, zq2, zq3, zq4, zq5, zq6, zq7, zq8, zq9, zq10, zq11, zq12] <;> omega) | rfl))))
                  conv => whnf
                  (refine ⟨(fun s : Nat => n - s) ((i + 1)), [0], tmk 132 0 ((fun s : Nat => [(0, .v (.int .i64 n)), (1, .v (.int .i64 a)), (2, .v (.int .i64 b)), (11, .v (.bool true)), (12, .slc 0 13 0 n), (14, .v (.int .i64 0)), (15, .v (.int .i64 s))]) ((i + 1))), (fun s : Nat => [Ent.row true 30 ock ((fOps (dF a b 3 true nilV) n).map orow)]) ((i + 1)), ?_, ?_⟩; focus (first | (simp only []; omega) | omega))
                  repeat ((conv => whnf); (first | refine Cnd.yes ?_ | refine Cnd.no ?_ | refine And.intro rfl ?_ | refine And.intro (by omega) ?_ | (refine And.intro ?_ ?_; focus (simp only [IntKind.wrap_i64, IntKind.wrap_u64, IntKind.wrap_u32]; omega)) | (refine And.intro ?_ ?_; focus (simp only [zl1, zl2, zl3, zl4, zl5, zl6, zl7, zl8, zl9] <;> omega))))
                  conv => whnf
                  exact ⟨i + 1, hin, rfl, rfl, (tmkK_eq _ _ _ _).mpr rfl, rfl⟩
            · repeat ((conv => whnf); (first | refine Cnd.yes ?_ | refine Cnd.no ?_ | refine And.intro rfl ?_ | refine And.intro (by omega) ?_ | (refine And.intro ?_ ?_; focus (simp only [IntKind.wrap_i64, IntKind.wrap_u64, IntKind.wrap_u32]; omega)) | (refine And.intro ?_ ?_; focus (simp only [zl1, zl2, zl3, zl4, zl5, zl6, zl7, zl8, zl9] <;> omega)) | (refine Cnd.tt ?_ ?_; focus (first | (apply decide_eq_true; omega) | (simp only [zq1, zq2, zq3, zq4, zq5, zq6, zq7, zq8, zq9, zq10, zq11, zq12] <;> omega) | rfl)) | (refine Cnd.ff ?_ ?_; focus (first | (apply decide_eq_false; omega) | (simp only [zq1, zq2, zq3, zq4, zq5, zq6, zq7, zq8, zq9, zq10, zq11, zq12] <;> omega) | rfl))))
              conv => whnf
              refine ⟨true, 30, fOps (dF a b 3 true nilV) n, b, a, by rw [hl], rfl, by omega, dF_fit a b 3 n true nilV (by omega), dF_dep3 _ a b n true nilV, ?_⟩
              rw [whyN_out (by omega)]
              repeat ((conv => whnf); (first | refine Cnd.yes ?_ | refine Cnd.no ?_ | refine And.intro rfl ?_ | refine And.intro (by omega) ?_ | (refine And.intro ?_ ?_; focus (simp only [IntKind.wrap_i64, IntKind.wrap_u64, IntKind.wrap_u32]; omega)) | (refine And.intro ?_ ?_; focus (simp only [zl1, zl2, zl3, zl4, zl5, zl6, zl7, zl8, zl9] <;> omega)) | (refine Cnd.tt ?_ ?_; focus (first | (apply decide_eq_true; omega) | (simp only [zq1, zq2, zq3, zq4, zq5, zq6, zq7, zq8, zq9, zq10, zq11, zq12] <;> omega) | rfl)) | (refine Cnd.ff ?_ ?_; focus (first | (apply decide_eq_false; omega) | (simp only [zq1, zq2, zq3, zq4, zq5, zq6, zq7, zq8, zq9, zq10, zq11, zq12] <;> omega) | rfl))))
              conv => whnf
              refine ⟨true, 30, fOps (dF a b 3 true nilV) n, a, a, by rw [hl], rfl, by omega, dF_fit a b 3 n true nilV (by omega), dF_dep3 _ a b n true nilV, ?_⟩
              rw [whyN_out (by omega)]
              repeat ((conv => whnf); (first | refine Cnd.yes ?_ | refine Cnd.no ?_ | refine And.intro rfl ?_ | refine And.intro (by omega) ?_ | (refine And.intro ?_ ?_; focus (simp only [IntKind.wrap_i64, IntKind.wrap_u64, IntKind.wrap_u32]; omega)) | (refine And.intro ?_ ?_; focus (simp only [zl1, zl2, zl3, zl4, zl5, zl6, zl7, zl8, zl9] <;> omega)) | (refine Cnd.tt ?_ ?_; focus (first | (apply decide_eq_true; omega) | (simp only [zq1, zq2, zq3, zq4, zq5, zq6, zq7, zq8, zq9, zq10, zq11, zq12] <;> omega) | rfl)) | (refine Cnd.ff ?_ ?_; focus (first | (apply decide_eq_false; omega) | (simp only [zq1, zq2, zq3, zq4, zq5, zq6, zq7, zq8, zq9, zq10, zq11, zq12] <;> omega) | rfl))))
              conv => whnf
              refine ⟨true, 30, fOps (dF a b 3 true nilV) n, -1, b, by rw [hl], rfl, by omega, dF_fit a b 3 n true nilV (by omega), dF_dep3 _ a b n true nilV, ?_⟩
              rw [whyN_out (by omega)]
              repeat ((conv => whnf); (first | refine Cnd.yes ?_ | refine Cnd.no ?_ | refine And.intro rfl ?_ | refine And.intro (by omega) ?_ | (refine And.intro ?_ ?_; focus (simp only [IntKind.wrap_i64, IntKind.wrap_u64, IntKind.wrap_u32]; omega)) | (refine And.intro ?_ ?_; focus (simp only [zl1, zl2, zl3, zl4, zl5, zl6, zl7, zl8, zl9] <;> omega)) | (refine Cnd.tt ?_ ?_; focus (first | (apply decide_eq_true; omega) | (simp only [zq1, zq2, zq3, zq4, zq5, zq6, zq7, zq8, zq9, zq10, zq11, zq12] <;> omega) | rfl)) | (refine Cnd.ff ?_ ?_; focus (first | (apply decide_eq_false; omega) | (simp only [zq1, zq2, zq3, zq4, zq5, zq6, zq7, zq8, zq9, zq10, zq11, zq12] <;> omega) | rfl))))
              conv => whnf
              refine ⟨true, 30, fOps (dF a b 3 true nilV) n, a, n, by rw [hl], rfl, by omega, dF_fit a b 3 n true nilV (by omega), dF_dep3 _ a b n true nilV, ?_⟩
              rw [whyN_out (by omega)]
              repeat ((conv => whnf); (first | refine Cnd.yes ?_ | refine Cnd.no ?_ | refine And.intro rfl ?_ | refine And.intro (by omega) ?_ | (refine And.intro ?_ ?_; focus (simp only [IntKind.wrap_i64, IntKind.wrap_u64, IntKind.wrap_u32]; omega)) | (refine And.intro ?_ ?_; focus (simp only [zl1, zl2, zl3, zl4, zl5, zl6, zl7, zl8, zl9] <;> omega)) | (refine Cnd.tt ?_ ?_; focus (first | (apply decide_eq_true; omega) | (simp only [zq1, zq2, zq3, zq4, zq5, zq6, zq7, zq8, zq9, zq10, zq11, zq12] <;> omega) | rfl)) | (refine Cnd.ff ?_ ?_; focus (first | (apply decide_eq_false; omega) | (simp only [zq1, zq2, zq3, zq4, zq5, zq6, zq7, zq8, zq9, zq10, zq11, zq12] <;> omega) | rfl))))
              conv => whnf
              exact hK _ _
end Go.Proofs.Ytkfkoldaeplckaa
