/-
  PpoFences, walked.
-/
import Derived.Test.YtkfkoldaeplckaaCq
namespace Go.Proofs.Ytkfkoldaeplckaa
open Go Go.Vc
set_option maxRecDepth 100000
set_option linter.unusedSimpArgs false
set_option linter.unusedVariables false
def brw (b : Bool) : List Value := [.bool b]
theorem toB_q {l : List Bool} {i : Nat} (hi : i < l.length) : toB (cellAt (l.map brw) (0 + (i : Int).toNat) 0) = l.getD i false := by
  rw [Nat.zero_add, Int.toNat_natCast]
  simp [cellAt, List.getD, hi, brw, toB]
set_option maxHeartbeats 10000000 in
theorem fences_run (M : HL) (K : SV → List Ent → HL → Prop) (e : TypeId) (kl : List Bool) (p0 s0 : Int) (g : Nat → Bool) (hg : ∀ j, kl.getD j false = g j) (hK : ∀ hp M', K (.v (.bool true)) hp M') :
    runF G9 pf4 [.slc 0 1 0 kl.length, .v (.int .i64 p0), .v (.int .i64 s0)] [.row false e [.bool] (kl.map brw)] M K := by
  obtain ⟨P, hP⟩ : ∃ P : Int, P = IntKind.i64.wrap (BitVec.ofInt IntKind.i64.bits p0 &&& BitVec.ofInt IntKind.i64.bits 3).toNat := ⟨_, rfl⟩
  obtain ⟨S, hS⟩ : ∃ S : Int, S = IntKind.i64.wrap (BitVec.ofInt IntKind.i64.bits s0 &&& BitVec.ofInt IntKind.i64.bits 3).toNat := ⟨_, rfl⟩
  repeat ((conv => whnf); (first | refine Cnd.yes ?_ | refine Cnd.no ?_ | refine And.intro rfl ?_ | refine And.intro (by omega) ?_ | (refine And.intro ?_ ?_; focus (simp only [IntKind.wrap_i64, IntKind.wrap_u64, IntKind.wrap_u32]; omega)) | (refine And.intro ?_ ?_; focus (simp only [zl1, zl2, zl3, zl4, zl5, zl6, zl7, zl8, zl9] <;> omega)) | (refine Cnd.tt ?_ ?_; focus (first | (apply decide_eq_true; omega) | (simp only [zq1, zq2, zq3, zq4, zq5, zq6, zq7, zq8, zq9, zq10, zq11, zq12] <;> omega) | rfl)) | (refine Cnd.ff ?_ ?_; focus (first | (apply decide_eq_false; omega) | (simp only [zq1, zq2, zq3, zq4, zq5, zq6, zq7, zq8, zq9, zq10, zq11, zq12] <;> omega) | rfl))))
  conv => whnf
  by_cases hbig : 12 < kl.length
  · repeat ((conv => whnf); (first | refine Cnd.yes ?_ | refine Cnd.no ?_ | refine And.intro rfl ?_ | refine And.intro (by omega) ?_ | (refine And.intro ?_ ?_; focus (simp only [IntKind.wrap_i64, IntKind.wrap_u64, IntKind.wrap_u32]; omega)) | (refine And.intro ?_ ?_; focus (simp only [zl1, zl2, zl3, zl4, zl5, zl6, zl7, zl8, zl9] <;> omega)) | (refine Cnd.tt ?_ ?_; focus (first | (apply decide_eq_true; omega) | (simp only [zq1, zq2, zq3, zq4, zq5, zq6, zq7, zq8, zq9, zq10, zq11, zq12] <;> omega) | rfl)) | (refine Cnd.ff ?_ ?_; focus (first | (apply decide_eq_false; omega) | (simp only [zq1, zq2, zq3, zq4, zq5, zq6, zq7, zq8, zq9, zq10, zq11, zq12] <;> omega) | rfl))))
    conv => whnf
    exact hK _ _
  · repeat ((conv => whnf); (first | refine Cnd.yes ?_ | refine Cnd.no ?_ | refine And.intro rfl ?_ | refine And.intro (by omega) ?_ | (refine And.intro ?_ ?_; focus (simp only [IntKind.wrap_i64, IntKind.wrap_u64, IntKind.wrap_u32]; omega)) | (refine And.intro ?_ ?_; focus (simp only [zl1, zl2, zl3, zl4, zl5, zl6, zl7, zl8, zl9] <;> omega)) | (refine Cnd.tt ?_ ?_; focus (first | (apply decide_eq_true; omega) | (simp only [zq1, zq2, zq3, zq4, zq5, zq6, zq7, zq8, zq9, zq10, zq11, zq12] <;> omega) | rfl)) | (refine Cnd.ff ?_ ?_; focus (first | (apply decide_eq_false; omega) | (simp only [zq1, zq2, zq3, zq4, zq5, zq6, zq7, zq8, zq9, zq10, zq11, zq12] <;> omega) | rfl))))
    conv => whnf
    rw [← hP, ← hS]
    clear hP hS
    refine ⟨InvS 105 (fun s : Nat => kl.length - s) (fun s : Nat => s ≤ kl.length) (fun s : Nat => [(0, .slc 0 1 0 kl.length), (1, .v (.int .i64 P)), (2, .v (.int .i64 S)), (7, .v (.bool true)), (8, .slc 1 13 0 s), (9, .slc 2 13 0 (2 * s)), (10, .v (.int .i64 s))]) (fun s : Nat => [Ent.row false e [.bool] (kl.map brw), .row true 30 ock ((fOps (qOp g) s).map orow), .row true 30 ock ((fOps (fl g P S) (2 * s)).map orow)]) M, ⟨(fun s : Nat => kl.length - s) 0, [0, 9, 9], tmk 105 0 ((fun s : Nat => [(0, .slc 0 1 0 kl.length), (1, .v (.int .i64 P)), (2, .v (.int .i64 S)), (7, .v (.bool true)), (8, .slc 1 13 0 s), (9, .slc 2 13 0 (2 * s)), (10, .v (.int .i64 s))]) 0), (fun s : Nat => [Ent.row false e [.bool] (kl.map brw), .row true 30 ock ((fOps (qOp g) s).map orow), .row true 30 ock ((fOps (fl g P S) (2 * s)).map orow)]) 0, ?_⟩, ?_⟩
    · repeat ((conv => whnf); (first | refine Cnd.yes ?_ | refine Cnd.no ?_ | refine And.intro rfl ?_ | refine And.intro (by omega) ?_ | (refine And.intro ?_ ?_; focus (simp only [IntKind.wrap_i64, IntKind.wrap_u64, IntKind.wrap_u32]; omega)) | (refine And.intro ?_ ?_; focus (simp only [zl1, zl2, zl3, zl4, zl5, zl6, zl7, zl8, zl9] <;> omega))))
      conv => whnf
      exact ⟨0, Nat.zero_le _, rfl, rfl, (tmkK_eq _ _ _ _).mpr rfl, rfl⟩
    · rintro cnt tm hp M1 ⟨i, hC_, rfl, rfl, htm, hhp_⟩
      replace hC_ : i ≤ kl.length := hC_
      have hi := hC_
      replace htm : tmkK 105 0 [(0, .slc 0 1 0 kl.length), (1, .v (.int .i64 P)), (2, .v (.int .i64 S)), (7, .v (.bool true)), (8, .slc 1 13 0 i), (9, .slc 2 13 0 (2 * i)), (10, .v (.int .i64 i))] (fun l => tm = l) := htm
      conv at htm => whnf
      subst htm
      replace hhp_ : hp = [Ent.row false e [.bool] (kl.map brw), .row true 30 ock ((fOps (qOp g) i).map orow), .row true 30 ock ((fOps (fl g P S) (2 * i)).map orow)] := hhp_
      subst hhp_
      repeat ((conv => whnf); (first | refine Cnd.yes ?_ | refine Cnd.no ?_ | refine And.intro rfl ?_ | refine And.intro (by omega) ?_ | (refine And.intro ?_ ?_; focus (simp only [IntKind.wrap_i64, IntKind.wrap_u64, IntKind.wrap_u32]; omega)) | (refine And.intro ?_ ?_; focus (simp only [zl1, zl2, zl3, zl4, zl5, zl6, zl7, zl8, zl9] <;> omega)) | (refine Cnd.tt ?_ ?_; focus (first | (apply decide_eq_true; omega) | (simp only [zq1, zq2, zq3, zq4, zq5, zq6, zq7, zq8, zq9, zq10, zq11, zq12] <;> omega) | rfl)) | (refine Cnd.ff ?_ ?_; focus (first | (apply decide_eq_false; omega) | (simp only [zq1, zq2, zq3, zq4, zq5, zq6, zq7, zq8, zq9, zq10, zq11, zq12] <;> omega) | rfl))))
      conv => whnf
      refine Cnd.mk (fun hlt => ?_) fun hge => ?_
      · have hin : i < kl.length := by have := of_decide_eq_true hlt; omega
        have e4 : IntKind.u32.wrap (IntKind.i64.wrap (4 * (i : Int))) = ((4 * i : Nat) : Int) := by rw [IntKind.wrap_i64, IntKind.wrap_u32]; omega
        have e0 := toB_q hin
        rw [hg] at e0
        have l1 := fOps_len (qOp g) i
        have l2 := fOps_len (fl g P S) (2 * i)
        have n1 : List.take i (List.drop 0 ((fOps (qOp g) i).map orow)) ++ List.take 1 (List.drop 0 [orow (qOp g i)]) = (fOps (qOp g) (i + 1)).map orow := by
          rw [List.drop_zero, List.take_of_length_le (by simp [l1]), fOps_next, List.map_append]; rfl
        have n2 : List.take (2 * i) (List.drop 0 ((fOps (fl g P S) (2 * i)).map orow)) ++ List.take 2 (List.drop 0 [orow (qOp g i), orow (barO P S)]) = (fOps (fl g P S) (2 * (i + 1))).map orow := by
          rw [List.drop_zero, List.take_of_length_le (by simp [l2]), fl_next, List.map_append]; rfl
        repeat ((conv => whnf); (first | refine Cnd.yes ?_ | refine Cnd.no ?_ | refine And.intro rfl ?_ | refine And.intro (by omega) ?_ | (refine And.intro ?_ ?_; focus (simp only [IntKind.wrap_i64, IntKind.wrap_u64, IntKind.wrap_u32]; omega)) | (refine And.intro ?_ ?_; focus (simp only [zl1, zl2, zl3, zl4, zl5, zl6, zl7, zl8, zl9] <;> omega)) | (refine Cnd.tt ?_ ?_; focus (first | (apply decide_eq_true; omega) | (simp only [zq1, zq2, zq3, zq4, zq5, zq6, zq7, zq8, zq9, zq10, zq11, zq12] <;> omega) | rfl)) | (refine Cnd.ff ?_ ?_; focus (first | (apply decide_eq_false; omega) | (simp only [zq1, zq2, zq3, zq4, zq5, zq6, zq7, zq8, zq9, zq10, zq11, zq12] <;> omega) | rfl))))
        conv => whnf
        rw [e4, e0]
        cases hb : g i with
        | true =>
          rw [show qOp g i = op0 2 4 ((4 * i : Nat) : Int) by unfold qOp; rw [hb]; rfl] at n1 n2
          repeat ((conv => whnf); (first | refine Cnd.yes ?_ | refine Cnd.no ?_ | refine And.intro rfl ?_ | refine And.intro (by omega) ?_ | (refine And.intro ?_ ?_; focus (simp only [IntKind.wrap_i64, IntKind.wrap_u64, IntKind.wrap_u32]; omega)) | (refine And.intro ?_ ?_; focus (simp only [zl1, zl2, zl3, zl4, zl5, zl6, zl7, zl8, zl9] <;> omega)) | (refine Cnd.tt ?_ ?_; focus (first | (apply decide_eq_true; omega) | (simp only [zq1, zq2, zq3, zq4, zq5, zq6, zq7, zq8, zq9, zq10, zq11, zq12] <;> omega) | rfl)) | (refine Cnd.ff ?_ ?_; focus (first | (apply decide_eq_false; omega) | (simp only [zq1, zq2, zq3, zq4, zq5, zq6, zq7, zq8, zq9, zq10, zq11, zq12] <;> omega) | rfl))))
          conv => whnf
          (refine ⟨(fun s : Nat => kl.length - s) (i + 1), [0, 5, 7], tmk 105 0 ((fun s : Nat => [(0, .slc 0 1 0 kl.length), (1, .v (.int .i64 P)), (2, .v (.int .i64 S)), (7, .v (.bool true)), (8, .slc 1 13 0 s), (9, .slc 2 13 0 (2 * s)), (10, .v (.int .i64 s))]) (i + 1)), (fun s : Nat => [Ent.row false e [.bool] (kl.map brw), .row true 30 ock ((fOps (qOp g) s).map orow), .row true 30 ock ((fOps (fl g P S) (2 * s)).map orow)]) (i + 1), ?_, ?_⟩; focus (first | (simp only []; omega) | omega))
          repeat ((conv => whnf); (first | refine Cnd.yes ?_ | refine Cnd.no ?_ | refine And.intro rfl ?_ | refine And.intro (by omega) ?_ | (refine And.intro ?_ ?_; focus (simp only [IntKind.wrap_i64, IntKind.wrap_u64, IntKind.wrap_u32]; omega)) | (refine And.intro ?_ ?_; focus (simp only [zl1, zl2, zl3, zl4, zl5, zl6, zl7, zl8, zl9] <;> omega))))
          conv => whnf
          refine ⟨n1, ?_⟩
          repeat ((conv => whnf); (first | refine Cnd.yes ?_ | refine Cnd.no ?_ | refine And.intro rfl ?_ | refine And.intro (by omega) ?_ | (refine And.intro ?_ ?_; focus (simp only [IntKind.wrap_i64, IntKind.wrap_u64, IntKind.wrap_u32]; omega)) | (refine And.intro ?_ ?_; focus (simp only [zl1, zl2, zl3, zl4, zl5, zl6, zl7, zl8, zl9] <;> omega))))
          conv => whnf
          refine ⟨n2, ?_⟩
          repeat ((conv => whnf); (first | refine Cnd.yes ?_ | refine Cnd.no ?_ | refine And.intro rfl ?_ | refine And.intro (by omega) ?_ | (refine And.intro ?_ ?_; focus (simp only [IntKind.wrap_i64, IntKind.wrap_u64, IntKind.wrap_u32]; omega)) | (refine And.intro ?_ ?_; focus (simp only [zl1, zl2, zl3, zl4, zl5, zl6, zl7, zl8, zl9] <;> omega))))
          conv => whnf
          exact ⟨i + 1, hin, rfl, rfl, (tmkK_eq _ _ _ _).mpr rfl, rfl⟩
        | false =>
          rw [show qOp g i = op0 1 4 ((4 * i : Nat) : Int) by unfold qOp; rw [hb]; rfl] at n1 n2
          repeat ((conv => whnf); (first | refine Cnd.yes ?_ | refine Cnd.no ?_ | refine And.intro rfl ?_ | refine And.intro (by omega) ?_ | (refine And.intro ?_ ?_; focus (simp only [IntKind.wrap_i64, IntKind.wrap_u64, IntKind.wrap_u32]; omega)) | (refine And.intro ?_ ?_; focus (simp only [zl1, zl2, zl3, zl4, zl5, zl6, zl7, zl8, zl9] <;> omega)) | (refine Cnd.tt ?_ ?_; focus (first | (apply decide_eq_true; omega) | (simp only [zq1, zq2, zq3, zq4, zq5, zq6, zq7, zq8, zq9, zq10, zq11, zq12] <;> omega) | rfl)) | (refine Cnd.ff ?_ ?_; focus (first | (apply decide_eq_false; omega) | (simp only [zq1, zq2, zq3, zq4, zq5, zq6, zq7, zq8, zq9, zq10, zq11, zq12] <;> omega) | rfl))))
          conv => whnf
          (refine ⟨(fun s : Nat => kl.length - s) (i + 1), [0, 5, 7], tmk 105 0 ((fun s : Nat => [(0, .slc 0 1 0 kl.length), (1, .v (.int .i64 P)), (2, .v (.int .i64 S)), (7, .v (.bool true)), (8, .slc 1 13 0 s), (9, .slc 2 13 0 (2 * s)), (10, .v (.int .i64 s))]) (i + 1)), (fun s : Nat => [Ent.row false e [.bool] (kl.map brw), .row true 30 ock ((fOps (qOp g) s).map orow), .row true 30 ock ((fOps (fl g P S) (2 * s)).map orow)]) (i + 1), ?_, ?_⟩; focus (first | (simp only []; omega) | omega))
          repeat ((conv => whnf); (first | refine Cnd.yes ?_ | refine Cnd.no ?_ | refine And.intro rfl ?_ | refine And.intro (by omega) ?_ | (refine And.intro ?_ ?_; focus (simp only [IntKind.wrap_i64, IntKind.wrap_u64, IntKind.wrap_u32]; omega)) | (refine And.intro ?_ ?_; focus (simp only [zl1, zl2, zl3, zl4, zl5, zl6, zl7, zl8, zl9] <;> omega))))
          conv => whnf
          refine ⟨n1, ?_⟩
          repeat ((conv => whnf); (first | refine Cnd.yes ?_ | refine Cnd.no ?_ | refine And.intro rfl ?_ | refine And.intro (by omega) ?_ | (refine And.intro ?_ ?_; focus (simp only [IntKind.wrap_i64, IntKind.wrap_u64, IntKind.wrap_u32]; omega)) | (refine And.intro ?_ ?_; focus (simp only [zl1, zl2, zl3, zl4, zl5, zl6, zl7, zl8, zl9] <;> omega))))
          conv => whnf
          refine ⟨n2, ?_⟩
          repeat ((conv => whnf); (first | refine Cnd.yes ?_ | refine Cnd.no ?_ | refine And.intro rfl ?_ | refine And.intro (by omega) ?_ | (refine And.intro ?_ ?_; focus (simp only [IntKind.wrap_i64, IntKind.wrap_u64, IntKind.wrap_u32]; omega)) | (refine And.intro ?_ ?_; focus (simp only [zl1, zl2, zl3, zl4, zl5, zl6, zl7, zl8, zl9] <;> omega))))
          conv => whnf
          exact ⟨i + 1, hin, rfl, rfl, (tmkK_eq _ _ _ _).mpr rfl, rfl⟩
      · have hin : i = kl.length := by have := of_decide_eq_false hge; omega
        subst hin
        have l1 := fOps_len (qOp g) kl.length
        have l2 := fOps_len (fl g P S) (2 * kl.length)
        repeat ((conv => whnf); (first | refine Cnd.yes ?_ | refine Cnd.no ?_ | refine And.intro rfl ?_ | refine And.intro (by omega) ?_ | (refine And.intro ?_ ?_; focus (simp only [IntKind.wrap_i64, IntKind.wrap_u64, IntKind.wrap_u32]; omega)) | (refine And.intro ?_ ?_; focus (simp only [zl1, zl2, zl3, zl4, zl5, zl6, zl7, zl8, zl9] <;> omega)) | (refine Cnd.tt ?_ ?_; focus (first | (apply decide_eq_true; omega) | (simp only [zq1, zq2, zq3, zq4, zq5, zq6, zq7, zq8, zq9, zq10, zq11, zq12] <;> omega) | rfl)) | (refine Cnd.ff ?_ ?_; focus (first | (apply decide_eq_false; omega) | (simp only [zq1, zq2, zq3, zq4, zq5, zq6, zq7, zq8, zq9, zq10, zq11, zq12] <;> omega) | rfl))))
        conv => whnf
        refine ⟨InvS 105 (fun s : Nat => kl.length - s) (fun s : Nat => s ≤ kl.length) (fun s : Nat => [(0, .slc 0 1 0 kl.length), (1, .v (.int .i64 P)), (2, .v (.int .i64 S)), (8, .slc 1 13 0 kl.length), (9, .slc 2 13 0 (2 * kl.length)), (12, .v (.int .i64 s))]) (fun s : Nat => [Ent.row false e [.bool] (kl.map brw), .row true 30 ock ((fOps (qOp g) kl.length).map orow), .row true 30 ock ((fOps (fl g P S) (2 * kl.length)).map orow)]) M1, ⟨(fun s : Nat => kl.length - s) 0, [0, 1, 2], tmk 105 0 ((fun s : Nat => [(0, .slc 0 1 0 kl.length), (1, .v (.int .i64 P)), (2, .v (.int .i64 S)), (8, .slc 1 13 0 kl.length), (9, .slc 2 13 0 (2 * kl.length)), (12, .v (.int .i64 s))]) 0), (fun s : Nat => [Ent.row false e [.bool] (kl.map brw), .row true 30 ock ((fOps (qOp g) kl.length).map orow), .row true 30 ock ((fOps (fl g P S) (2 * kl.length)).map orow)]) 0, ?_⟩, ?_⟩
        · repeat ((conv => whnf); (first | refine Cnd.yes ?_ | refine Cnd.no ?_ | refine And.intro rfl ?_ | refine And.intro (by omega) ?_ | (refine And.intro ?_ ?_; focus (simp only [IntKind.wrap_i64, IntKind.wrap_u64, IntKind.wrap_u32]; omega)) | (refine And.intro ?_ ?_; focus (simp only [zl1, zl2, zl3, zl4, zl5, zl6, zl7, zl8, zl9] <;> omega))))
          conv => whnf
          exact ⟨0, Nat.zero_le _, rfl, rfl, (tmkK_eq _ _ _ _).mpr rfl, rfl⟩
        · rintro cnt tm hp M1 ⟨i, hC_, rfl, rfl, htm, hhp_⟩
          replace hC_ : i ≤ kl.length := hC_
          have hi2 := hC_
          replace htm : tmkK 105 0 [(0, .slc 0 1 0 kl.length), (1, .v (.int .i64 P)), (2, .v (.int .i64 S)), (8, .slc 1 13 0 kl.length), (9, .slc 2 13 0 (2 * kl.length)), (12, .v (.int .i64 i))] (fun l => tm = l) := htm
          conv at htm => whnf
          subst htm
          replace hhp_ : hp = [Ent.row false e [.bool] (kl.map brw), .row true 30 ock ((fOps (qOp g) kl.length).map orow), .row true 30 ock ((fOps (fl g P S) (2 * kl.length)).map orow)] := hhp_
          subst hhp_
          repeat ((conv => whnf); (first | refine Cnd.yes ?_ | refine Cnd.no ?_ | refine And.intro rfl ?_ | refine And.intro (by omega) ?_ | (refine And.intro ?_ ?_; focus (simp only [IntKind.wrap_i64, IntKind.wrap_u64, IntKind.wrap_u32]; omega)) | (refine And.intro ?_ ?_; focus (simp only [zl1, zl2, zl3, zl4, zl5, zl6, zl7, zl8, zl9] <;> omega)) | (refine Cnd.tt ?_ ?_; focus (first | (apply decide_eq_true; omega) | (simp only [zq1, zq2, zq3, zq4, zq5, zq6, zq7, zq8, zq9, zq10, zq11, zq12] <;> omega) | rfl)) | (refine Cnd.ff ?_ ?_; focus (first | (apply decide_eq_false; omega) | (simp only [zq1, zq2, zq3, zq4, zq5, zq6, zq7, zq8, zq9, zq10, zq11, zq12] <;> omega) | rfl))))
          conv => whnf
          refine Cnd.mk (fun hlt => ?_) fun hge2 => ?_
          · have hin : i < kl.length := by have := of_decide_eq_true hlt; omega
            have e5 : IntKind.i64.wrap ((i : Int) + 1) = ((i + 1 : Nat) : Int) := by rw [IntKind.wrap_i64]; omega
            have e6 : IntKind.i64.wrap (2 * (i : Int)) = ((2 * i : Nat) : Int) := by rw [IntKind.wrap_i64]; omega
            have e0 := toB_q hin
            rw [hg] at e0
            repeat ((conv => whnf); (first | refine Cnd.yes ?_ | refine Cnd.no ?_ | refine And.intro rfl ?_ | refine And.intro (by omega) ?_ | (refine And.intro ?_ ?_; focus (simp only [IntKind.wrap_i64, IntKind.wrap_u64, IntKind.wrap_u32]; omega)) | (refine And.intro ?_ ?_; focus (simp only [zl1, zl2, zl3, zl4, zl5, zl6, zl7, zl8, zl9] <;> omega)) | (refine Cnd.tt ?_ ?_; focus (first | (apply decide_eq_true; omega) | (simp only [zq1, zq2, zq3, zq4, zq5, zq6, zq7, zq8, zq9, zq10, zq11, zq12] <;> omega) | rfl)) | (refine Cnd.ff ?_ ?_; focus (first | (apply decide_eq_false; omega) | (simp only [zq1, zq2, zq3, zq4, zq5, zq6, zq7, zq8, zq9, zq10, zq11, zq12] <;> omega) | rfl))))
            conv => whnf
            rw [e5]
            refine ⟨InvS 105 (fun s : Nat => kl.length - s) (fun s : Nat => i + 1 ≤ s ∧ s ≤ kl.length) (fun s : Nat => [(0, .slc 0 1 0 kl.length), (1, .v (.int .i64 P)), (2, .v (.int .i64 S)), (8, .slc 1 13 0 kl.length), (9, .slc 2 13 0 (2 * kl.length)), (12, .v (.int .i64 i)), (13, .v (.int .i64 s))]) (fun s : Nat => [Ent.row false e [.bool] (kl.map brw), .row true 30 ock ((fOps (qOp g) kl.length).map orow), .row true 30 ock ((fOps (fl g P S) (2 * kl.length)).map orow)]) M1, ⟨(fun s : Nat => kl.length - s) (i + 1), [0, 1, 2], tmk 105 0 ((fun s : Nat => [(0, .slc 0 1 0 kl.length), (1, .v (.int .i64 P)), (2, .v (.int .i64 S)), (8, .slc 1 13 0 kl.length), (9, .slc 2 13 0 (2 * kl.length)), (12, .v (.int .i64 i)), (13, .v (.int .i64 s))]) (i + 1)), (fun s : Nat => [Ent.row false e [.bool] (kl.map brw), .row true 30 ock ((fOps (qOp g) kl.length).map orow), .row true 30 ock ((fOps (fl g P S) (2 * kl.length)).map orow)]) (i + 1), ?_⟩, ?_⟩
            · repeat ((conv => whnf); (first | refine Cnd.yes ?_ | refine Cnd.no ?_ | refine And.intro rfl ?_ | refine And.intro (by omega) ?_ | (refine And.intro ?_ ?_; focus (simp only [IntKind.wrap_i64, IntKind.wrap_u64, IntKind.wrap_u32]; omega)) | (refine And.intro ?_ ?_; focus (simp only [zl1, zl2, zl3, zl4, zl5, zl6, zl7, zl8, zl9] <;> omega))))
              conv => whnf
              exact ⟨i + 1, ⟨Nat.le_refl _, hin⟩, rfl, rfl, (tmkK_eq _ _ _ _).mpr rfl, rfl⟩
            · rintro cnt tm hp M1 ⟨k, hC_, rfl, rfl, htm, hhp_⟩
              replace hC_ : i + 1 ≤ k ∧ k ≤ kl.length := hC_
              obtain ⟨hk1,hk2⟩ := hC_
              replace htm : tmkK 105 0 [(0, .slc 0 1 0 kl.length), (1, .v (.int .i64 P)), (2, .v (.int .i64 S)), (8, .slc 1 13 0 kl.length), (9, .slc 2 13 0 (2 * kl.length)), (12, .v (.int .i64 i)), (13, .v (.int .i64 k))] (fun l => tm = l) := htm
              conv at htm => whnf
              subst htm
              replace hhp_ : hp = [Ent.row false e [.bool] (kl.map brw), .row true 30 ock ((fOps (qOp g) kl.length).map orow), .row true 30 ock ((fOps (fl g P S) (2 * kl.length)).map orow)] := hhp_
              subst hhp_
              repeat ((conv => whnf); (first | refine Cnd.yes ?_ | refine Cnd.no ?_ | refine And.intro rfl ?_ | refine And.intro (by omega) ?_ | (refine And.intro ?_ ?_; focus (simp only [IntKind.wrap_i64, IntKind.wrap_u64, IntKind.wrap_u32]; omega)) | (refine And.intro ?_ ?_; focus (simp only [zl1, zl2, zl3, zl4, zl5, zl6, zl7, zl8, zl9] <;> omega)) | (refine Cnd.tt ?_ ?_; focus (first | (apply decide_eq_true; omega) | (simp only [zq1, zq2, zq3, zq4, zq5, zq6, zq7, zq8, zq9, zq10, zq11, zq12] <;> omega) | rfl)) | (refine Cnd.ff ?_ ?_; focus (first | (apply decide_eq_false; omega) | (simp only [zq1, zq2, zq3, zq4, zq5, zq6, zq7, zq8, zq9, zq10, zq11, zq12] <;> omega) | rfl))))
              conv => whnf
              refine Cnd.mk (fun hlt2 => ?_) fun hge3 => ?_
              · have hkn : k < kl.length := by have := of_decide_eq_true hlt2; omega
                have e7 : IntKind.i64.wrap (2 * (k : Int)) = ((2 * k : Nat) : Int) := by rw [IntKind.wrap_i64]; omega
                have e1 := toB_q hkn
                rw [hg] at e1
                have hw1 := bare_none g (show i < k by omega) hkn
                have hw2 := full_why g P S (show i < k by omega) hkn
                repeat ((conv => whnf); (first | refine Cnd.yes ?_ | refine Cnd.no ?_ | refine And.intro rfl ?_ | refine And.intro (by omega) ?_ | (refine And.intro ?_ ?_; focus (simp only [IntKind.wrap_i64, IntKind.wrap_u64, IntKind.wrap_u32]; omega)) | (refine And.intro ?_ ?_; focus (simp only [zl1, zl2, zl3, zl4, zl5, zl6, zl7, zl8, zl9] <;> omega)) | (refine Cnd.tt ?_ ?_; focus (first | (apply decide_eq_true; omega) | (simp only [zq1, zq2, zq3, zq4, zq5, zq6, zq7, zq8, zq9, zq10, zq11, zq12] <;> omega) | rfl)) | (refine Cnd.ff ?_ ?_; focus (first | (apply decide_eq_false; omega) | (simp only [zq1, zq2, zq3, zq4, zq5, zq6, zq7, zq8, zq9, zq10, zq11, zq12] <;> omega) | rfl))))
                conv => whnf
                rw [e0]
                cases hgi : g i with
                | true =>
                  repeat ((conv => whnf); (first | refine Cnd.yes ?_ | refine Cnd.no ?_ | refine And.intro rfl ?_ | refine And.intro (by omega) ?_ | (refine And.intro ?_ ?_; focus (simp only [IntKind.wrap_i64, IntKind.wrap_u64, IntKind.wrap_u32]; omega)) | (refine And.intro ?_ ?_; focus (simp only [zl1, zl2, zl3, zl4, zl5, zl6, zl7, zl8, zl9] <;> omega)) | (refine Cnd.tt ?_ ?_; focus (first | (apply decide_eq_true; omega) | (simp only [zq1, zq2, zq3, zq4, zq5, zq6, zq7, zq8, zq9, zq10, zq11, zq12] <;> omega) | rfl)) | (refine Cnd.ff ?_ ?_; focus (first | (apply decide_eq_false; omega) | (simp only [zq1, zq2, zq3, zq4, zq5, zq6, zq7, zq8, zq9, zq10, zq11, zq12] <;> omega) | rfl))))
                  conv => whnf
                  rw [e1]
                  cases hgk : g k with
                  | true =>
                    repeat ((conv => whnf); (first | refine Cnd.yes ?_ | refine Cnd.no ?_ | refine And.intro rfl ?_ | refine And.intro (by omega) ?_ | (refine And.intro ?_ ?_; focus (simp only [IntKind.wrap_i64, IntKind.wrap_u64, IntKind.wrap_u32]; omega)) | (refine And.intro ?_ ?_; focus (simp only [zl1, zl2, zl3, zl4, zl5, zl6, zl7, zl8, zl9] <;> omega)) | (refine Cnd.tt ?_ ?_; focus (first | (apply decide_eq_true; omega) | (simp only [zq1, zq2, zq3, zq4, zq5, zq6, zq7, zq8, zq9, zq10, zq11, zq12] <;> omega) | rfl)) | (refine Cnd.ff ?_ ?_; focus (first | (apply decide_eq_false; omega) | (simp only [zq1, zq2, zq3, zq4, zq5, zq6, zq7, zq8, zq9, zq10, zq11, zq12] <;> omega) | rfl))))
                    conv => whnf
                    rw [show (IntKind.i64.wrap (BitVec.ofInt IntKind.i64.bits P &&& BitVec.ofInt IntKind.i64.bits 2).toNat != 0) = bitB P 2 from rfl]
                    cases hp : bitB P 2 with
                    | true =>
                      repeat ((conv => whnf); (first | refine Cnd.yes ?_ | refine Cnd.no ?_ | refine And.intro rfl ?_ | refine And.intro (by omega) ?_ | (refine And.intro ?_ ?_; focus (simp only [IntKind.wrap_i64, IntKind.wrap_u64, IntKind.wrap_u32]; omega)) | (refine And.intro ?_ ?_; focus (simp only [zl1, zl2, zl3, zl4, zl5, zl6, zl7, zl8, zl9] <;> omega)) | (refine Cnd.tt ?_ ?_; focus (first | (apply decide_eq_true; omega) | (simp only [zq1, zq2, zq3, zq4, zq5, zq6, zq7, zq8, zq9, zq10, zq11, zq12] <;> omega) | rfl)) | (refine Cnd.ff ?_ ?_; focus (first | (apply decide_eq_false; omega) | (simp only [zq1, zq2, zq3, zq4, zq5, zq6, zq7, zq8, zq9, zq10, zq11, zq12] <;> omega) | rfl))))
                      conv => whnf
                      rw [show (IntKind.i64.wrap (BitVec.ofInt IntKind.i64.bits S &&& BitVec.ofInt IntKind.i64.bits 2).toNat != 0) = bitB S 2 from rfl]
                      cases hs : bitB S 2 with
                      | true =>
                        rw [show ab (g i) = 2 by rw [hgi]; rfl, show ab (g k) = 2 by rw [hgk]; rfl, hp, hs] at hw2
                        rw [if_pos (show (true && true) = true from rfl)] at hw2
                        repeat ((conv => whnf); (first | refine Cnd.yes ?_ | refine Cnd.no ?_ | refine And.intro rfl ?_ | refine And.intro (by omega) ?_ | (refine And.intro ?_ ?_; focus (simp only [IntKind.wrap_i64, IntKind.wrap_u64, IntKind.wrap_u32]; omega)) | (refine And.intro ?_ ?_; focus (simp only [zl1, zl2, zl3, zl4, zl5, zl6, zl7, zl8, zl9] <;> omega)) | (refine Cnd.tt ?_ ?_; focus (first | (apply decide_eq_true; omega) | (simp only [zq1, zq2, zq3, zq4, zq5, zq6, zq7, zq8, zq9, zq10, zq11, zq12] <;> omega) | rfl)) | (refine Cnd.ff ?_ ?_; focus (first | (apply decide_eq_false; omega) | (simp only [zq1, zq2, zq3, zq4, zq5, zq6, zq7, zq8, zq9, zq10, zq11, zq12] <;> omega) | rfl))))
                        conv => whnf
                        refine ⟨true, 30, fOps (qOp g) kl.length, i, k, by rw [l1], rfl, by omega, qOps_fit g _ (by omega), qOps_dep _ g _, ?_⟩
                        rw [hw1]
                        repeat ((conv => whnf); (first | refine Cnd.yes ?_ | refine Cnd.no ?_ | refine And.intro rfl ?_ | refine And.intro (by omega) ?_ | (refine And.intro ?_ ?_; focus (simp only [IntKind.wrap_i64, IntKind.wrap_u64, IntKind.wrap_u32]; omega)) | (refine And.intro ?_ ?_; focus (simp only [zl1, zl2, zl3, zl4, zl5, zl6, zl7, zl8, zl9] <;> omega)) | (refine Cnd.tt ?_ ?_; focus (first | (apply decide_eq_true; omega) | (simp only [zq1, zq2, zq3, zq4, zq5, zq6, zq7, zq8, zq9, zq10, zq11, zq12] <;> omega) | rfl)) | (refine Cnd.ff ?_ ?_; focus (first | (apply decide_eq_false; omega) | (simp only [zq1, zq2, zq3, zq4, zq5, zq6, zq7, zq8, zq9, zq10, zq11, zq12] <;> omega) | rfl))))
                        conv => whnf
                        rw [e6, e7]
                        refine ⟨true, 30, fOps (fl g P S) (2 * kl.length), (2 * i : Nat), (2 * k : Nat), by rw [l2], rfl, by omega, fl_fit g P S _ (by omega), fl_dep _ g P S _, ?_⟩
                        rw [hw2]
                        repeat ((conv => whnf); (first | refine Cnd.yes ?_ | refine Cnd.no ?_ | refine And.intro rfl ?_ | refine And.intro (by omega) ?_ | (refine And.intro ?_ ?_; focus (simp only [IntKind.wrap_i64, IntKind.wrap_u64, IntKind.wrap_u32]; omega)) | (refine And.intro ?_ ?_; focus (simp only [zl1, zl2, zl3, zl4, zl5, zl6, zl7, zl8, zl9] <;> omega)) | (refine Cnd.tt ?_ ?_; focus (first | (apply decide_eq_true; omega) | (simp only [zq1, zq2, zq3, zq4, zq5, zq6, zq7, zq8, zq9, zq10, zq11, zq12] <;> omega) | rfl)) | (refine Cnd.ff ?_ ?_; focus (first | (apply decide_eq_false; omega) | (simp only [zq1, zq2, zq3, zq4, zq5, zq6, zq7, zq8, zq9, zq10, zq11, zq12] <;> omega) | rfl))))
                        conv => whnf
                        (refine ⟨(fun s : Nat => kl.length - s) (k + 1), [0, 1, 2], tmk 105 0 ((fun s : Nat => [(0, .slc 0 1 0 kl.length), (1, .v (.int .i64 P)), (2, .v (.int .i64 S)), (8, .slc 1 13 0 kl.length), (9, .slc 2 13 0 (2 * kl.length)), (12, .v (.int .i64 i)), (13, .v (.int .i64 s))]) (k + 1)), (fun s : Nat => [Ent.row false e [.bool] (kl.map brw), .row true 30 ock ((fOps (qOp g) kl.length).map orow), .row true 30 ock ((fOps (fl g P S) (2 * kl.length)).map orow)]) (k + 1), ?_, ?_⟩; focus (first | (simp only []; omega) | omega))
                        repeat ((conv => whnf); (first | refine Cnd.yes ?_ | refine Cnd.no ?_ | refine And.intro rfl ?_ | refine And.intro (by omega) ?_ | (refine And.intro ?_ ?_; focus (simp only [IntKind.wrap_i64, IntKind.wrap_u64, IntKind.wrap_u32]; omega)) | (refine And.intro ?_ ?_; focus (simp only [zl1, zl2, zl3, zl4, zl5, zl6, zl7, zl8, zl9] <;> omega))))
                        conv => whnf
                        exact ⟨k + 1, ⟨by omega, hkn⟩, rfl, rfl, (tmkK_eq _ _ _ _).mpr rfl, rfl⟩
                      | false =>
                        rw [show ab (g i) = 2 by rw [hgi]; rfl, show ab (g k) = 2 by rw [hgk]; rfl, hp, hs] at hw2
                        rw [if_neg (show ¬ (true && false) = true by simp)] at hw2
                        repeat ((conv => whnf); (first | refine Cnd.yes ?_ | refine Cnd.no ?_ | refine And.intro rfl ?_ | refine And.intro (by omega) ?_ | (refine And.intro ?_ ?_; focus (simp only [IntKind.wrap_i64, IntKind.wrap_u64, IntKind.wrap_u32]; omega)) | (refine And.intro ?_ ?_; focus (simp only [zl1, zl2, zl3, zl4, zl5, zl6, zl7, zl8, zl9] <;> omega)) | (refine Cnd.tt ?_ ?_; focus (first | (apply decide_eq_true; omega) | (simp only [zq1, zq2, zq3, zq4, zq5, zq6, zq7, zq8, zq9, zq10, zq11, zq12] <;> omega) | rfl)) | (refine Cnd.ff ?_ ?_; focus (first | (apply decide_eq_false; omega) | (simp only [zq1, zq2, zq3, zq4, zq5, zq6, zq7, zq8, zq9, zq10, zq11, zq12] <;> omega) | rfl))))
                        conv => whnf
                        refine ⟨true, 30, fOps (qOp g) kl.length, i, k, by rw [l1], rfl, by omega, qOps_fit g _ (by omega), qOps_dep _ g _, ?_⟩
                        rw [hw1]
                        repeat ((conv => whnf); (first | refine Cnd.yes ?_ | refine Cnd.no ?_ | refine And.intro rfl ?_ | refine And.intro (by omega) ?_ | (refine And.intro ?_ ?_; focus (simp only [IntKind.wrap_i64, IntKind.wrap_u64, IntKind.wrap_u32]; omega)) | (refine And.intro ?_ ?_; focus (simp only [zl1, zl2, zl3, zl4, zl5, zl6, zl7, zl8, zl9] <;> omega)) | (refine Cnd.tt ?_ ?_; focus (first | (apply decide_eq_true; omega) | (simp only [zq1, zq2, zq3, zq4, zq5, zq6, zq7, zq8, zq9, zq10, zq11, zq12] <;> omega) | rfl)) | (refine Cnd.ff ?_ ?_; focus (first | (apply decide_eq_false; omega) | (simp only [zq1, zq2, zq3, zq4, zq5, zq6, zq7, zq8, zq9, zq10, zq11, zq12] <;> omega) | rfl))))
                        conv => whnf
                        rw [e6, e7]
                        refine ⟨true, 30, fOps (fl g P S) (2 * kl.length), (2 * i : Nat), (2 * k : Nat), by rw [l2], rfl, by omega, fl_fit g P S _ (by omega), fl_dep _ g P S _, ?_⟩
                        rw [hw2]
                        repeat ((conv => whnf); (first | refine Cnd.yes ?_ | refine Cnd.no ?_ | refine And.intro rfl ?_ | refine And.intro (by omega) ?_ | (refine And.intro ?_ ?_; focus (simp only [IntKind.wrap_i64, IntKind.wrap_u64, IntKind.wrap_u32]; omega)) | (refine And.intro ?_ ?_; focus (simp only [zl1, zl2, zl3, zl4, zl5, zl6, zl7, zl8, zl9] <;> omega)) | (refine Cnd.tt ?_ ?_; focus (first | (apply decide_eq_true; omega) | (simp only [zq1, zq2, zq3, zq4, zq5, zq6, zq7, zq8, zq9, zq10, zq11, zq12] <;> omega) | rfl)) | (refine Cnd.ff ?_ ?_; focus (first | (apply decide_eq_false; omega) | (simp only [zq1, zq2, zq3, zq4, zq5, zq6, zq7, zq8, zq9, zq10, zq11, zq12] <;> omega) | rfl))))
                        conv => whnf
                        (refine ⟨(fun s : Nat => kl.length - s) (k + 1), [0, 1, 2], tmk 105 0 ((fun s : Nat => [(0, .slc 0 1 0 kl.length), (1, .v (.int .i64 P)), (2, .v (.int .i64 S)), (8, .slc 1 13 0 kl.length), (9, .slc 2 13 0 (2 * kl.length)), (12, .v (.int .i64 i)), (13, .v (.int .i64 s))]) (k + 1)), (fun s : Nat => [Ent.row false e [.bool] (kl.map brw), .row true 30 ock ((fOps (qOp g) kl.length).map orow), .row true 30 ock ((fOps (fl g P S) (2 * kl.length)).map orow)]) (k + 1), ?_, ?_⟩; focus (first | (simp only []; omega) | omega))
                        repeat ((conv => whnf); (first | refine Cnd.yes ?_ | refine Cnd.no ?_ | refine And.intro rfl ?_ | refine And.intro (by omega) ?_ | (refine And.intro ?_ ?_; focus (simp only [IntKind.wrap_i64, IntKind.wrap_u64, IntKind.wrap_u32]; omega)) | (refine And.intro ?_ ?_; focus (simp only [zl1, zl2, zl3, zl4, zl5, zl6, zl7, zl8, zl9] <;> omega))))
                        conv => whnf
                        exact ⟨k + 1, ⟨by omega, hkn⟩, rfl, rfl, (tmkK_eq _ _ _ _).mpr rfl, rfl⟩
                    | false =>
                      rw [show ab (g i) = 2 by rw [hgi]; rfl, hp, Bool.false_and] at hw2
                      rw [if_neg (show ¬ false = true by simp)] at hw2
                      repeat ((conv => whnf); (first | refine Cnd.yes ?_ | refine Cnd.no ?_ | refine And.intro rfl ?_ | refine And.intro (by omega) ?_ | (refine And.intro ?_ ?_; focus (simp only [IntKind.wrap_i64, IntKind.wrap_u64, IntKind.wrap_u32]; omega)) | (refine And.intro ?_ ?_; focus (simp only [zl1, zl2, zl3, zl4, zl5, zl6, zl7, zl8, zl9] <;> omega)) | (refine Cnd.tt ?_ ?_; focus (first | (apply decide_eq_true; omega) | (simp only [zq1, zq2, zq3, zq4, zq5, zq6, zq7, zq8, zq9, zq10, zq11, zq12] <;> omega) | rfl)) | (refine Cnd.ff ?_ ?_; focus (first | (apply decide_eq_false; omega) | (simp only [zq1, zq2, zq3, zq4, zq5, zq6, zq7, zq8, zq9, zq10, zq11, zq12] <;> omega) | rfl))))
                      conv => whnf
                      refine ⟨true, 30, fOps (qOp g) kl.length, i, k, by rw [l1], rfl, by omega, qOps_fit g _ (by omega), qOps_dep _ g _, ?_⟩
                      rw [hw1]
                      repeat ((conv => whnf); (first | refine Cnd.yes ?_ | refine Cnd.no ?_ | refine And.intro rfl ?_ | refine And.intro (by omega) ?_ | (refine And.intro ?_ ?_; focus (simp only [IntKind.wrap_i64, IntKind.wrap_u64, IntKind.wrap_u32]; omega)) | (refine And.intro ?_ ?_; focus (simp only [zl1, zl2, zl3, zl4, zl5, zl6, zl7, zl8, zl9] <;> omega)) | (refine Cnd.tt ?_ ?_; focus (first | (apply decide_eq_true; omega) | (simp only [zq1, zq2, zq3, zq4, zq5, zq6, zq7, zq8, zq9, zq10, zq11, zq12] <;> omega) | rfl)) | (refine Cnd.ff ?_ ?_; focus (first | (apply decide_eq_false; omega) | (simp only [zq1, zq2, zq3, zq4, zq5, zq6, zq7, zq8, zq9, zq10, zq11, zq12] <;> omega) | rfl))))
                      conv => whnf
                      rw [e6, e7]
                      refine ⟨true, 30, fOps (fl g P S) (2 * kl.length), (2 * i : Nat), (2 * k : Nat), by rw [l2], rfl, by omega, fl_fit g P S _ (by omega), fl_dep _ g P S _, ?_⟩
                      rw [hw2]
                      repeat ((conv => whnf); (first | refine Cnd.yes ?_ | refine Cnd.no ?_ | refine And.intro rfl ?_ | refine And.intro (by omega) ?_ | (refine And.intro ?_ ?_; focus (simp only [IntKind.wrap_i64, IntKind.wrap_u64, IntKind.wrap_u32]; omega)) | (refine And.intro ?_ ?_; focus (simp only [zl1, zl2, zl3, zl4, zl5, zl6, zl7, zl8, zl9] <;> omega)) | (refine Cnd.tt ?_ ?_; focus (first | (apply decide_eq_true; omega) | (simp only [zq1, zq2, zq3, zq4, zq5, zq6, zq7, zq8, zq9, zq10, zq11, zq12] <;> omega) | rfl)) | (refine Cnd.ff ?_ ?_; focus (first | (apply decide_eq_false; omega) | (simp only [zq1, zq2, zq3, zq4, zq5, zq6, zq7, zq8, zq9, zq10, zq11, zq12] <;> omega) | rfl))))
                      conv => whnf
                      (refine ⟨(fun s : Nat => kl.length - s) (k + 1), [0, 1, 2], tmk 105 0 ((fun s : Nat => [(0, .slc 0 1 0 kl.length), (1, .v (.int .i64 P)), (2, .v (.int .i64 S)), (8, .slc 1 13 0 kl.length), (9, .slc 2 13 0 (2 * kl.length)), (12, .v (.int .i64 i)), (13, .v (.int .i64 s))]) (k + 1)), (fun s : Nat => [Ent.row false e [.bool] (kl.map brw), .row true 30 ock ((fOps (qOp g) kl.length).map orow), .row true 30 ock ((fOps (fl g P S) (2 * kl.length)).map orow)]) (k + 1), ?_, ?_⟩; focus (first | (simp only []; omega) | omega))
                      repeat ((conv => whnf); (first | refine Cnd.yes ?_ | refine Cnd.no ?_ | refine And.intro rfl ?_ | refine And.intro (by omega) ?_ | (refine And.intro ?_ ?_; focus (simp only [IntKind.wrap_i64, IntKind.wrap_u64, IntKind.wrap_u32]; omega)) | (refine And.intro ?_ ?_; focus (simp only [zl1, zl2, zl3, zl4, zl5, zl6, zl7, zl8, zl9] <;> omega))))
                      conv => whnf
                      exact ⟨k + 1, ⟨by omega, hkn⟩, rfl, rfl, (tmkK_eq _ _ _ _).mpr rfl, rfl⟩
                  | false =>
                    repeat ((conv => whnf); (first | refine Cnd.yes ?_ | refine Cnd.no ?_ | refine And.intro rfl ?_ | refine And.intro (by omega) ?_ | (refine And.intro ?_ ?_; focus (simp only [IntKind.wrap_i64, IntKind.wrap_u64, IntKind.wrap_u32]; omega)) | (refine And.intro ?_ ?_; focus (simp only [zl1, zl2, zl3, zl4, zl5, zl6, zl7, zl8, zl9] <;> omega)) | (refine Cnd.tt ?_ ?_; focus (first | (apply decide_eq_true; omega) | (simp only [zq1, zq2, zq3, zq4, zq5, zq6, zq7, zq8, zq9, zq10, zq11, zq12] <;> omega) | rfl)) | (refine Cnd.ff ?_ ?_; focus (first | (apply decide_eq_false; omega) | (simp only [zq1, zq2, zq3, zq4, zq5, zq6, zq7, zq8, zq9, zq10, zq11, zq12] <;> omega) | rfl))))
                    conv => whnf
                    rw [show (IntKind.i64.wrap (BitVec.ofInt IntKind.i64.bits P &&& BitVec.ofInt IntKind.i64.bits 2).toNat != 0) = bitB P 2 from rfl]
                    cases hp : bitB P 2 with
                    | true =>
                      repeat ((conv => whnf); (first | refine Cnd.yes ?_ | refine Cnd.no ?_ | refine And.intro rfl ?_ | refine And.intro (by omega) ?_ | (refine And.intro ?_ ?_; focus (simp only [IntKind.wrap_i64, IntKind.wrap_u64, IntKind.wrap_u32]; omega)) | (refine And.intro ?_ ?_; focus (simp only [zl1, zl2, zl3, zl4, zl5, zl6, zl7, zl8, zl9] <;> omega)) | (refine Cnd.tt ?_ ?_; focus (first | (apply decide_eq_true; omega) | (simp only [zq1, zq2, zq3, zq4, zq5, zq6, zq7, zq8, zq9, zq10, zq11, zq12] <;> omega) | rfl)) | (refine Cnd.ff ?_ ?_; focus (first | (apply decide_eq_false; omega) | (simp only [zq1, zq2, zq3, zq4, zq5, zq6, zq7, zq8, zq9, zq10, zq11, zq12] <;> omega) | rfl))))
                      conv => whnf
                      rw [show (IntKind.i64.wrap (BitVec.ofInt IntKind.i64.bits S &&& BitVec.ofInt IntKind.i64.bits 1).toNat != 0) = bitB S 1 from rfl]
                      cases hs : bitB S 1 with
                      | true =>
                        rw [show ab (g i) = 2 by rw [hgi]; rfl, show ab (g k) = 1 by rw [hgk]; rfl, hp, hs] at hw2
                        rw [if_pos (show (true && true) = true from rfl)] at hw2
                        repeat ((conv => whnf); (first | refine Cnd.yes ?_ | refine Cnd.no ?_ | refine And.intro rfl ?_ | refine And.intro (by omega) ?_ | (refine And.intro ?_ ?_; focus (simp only [IntKind.wrap_i64, IntKind.wrap_u64, IntKind.wrap_u32]; omega)) | (refine And.intro ?_ ?_; focus (simp only [zl1, zl2, zl3, zl4, zl5, zl6, zl7, zl8, zl9] <;> omega)) | (refine Cnd.tt ?_ ?_; focus (first | (apply decide_eq_true; omega) | (simp only [zq1, zq2, zq3, zq4, zq5, zq6, zq7, zq8, zq9, zq10, zq11, zq12] <;> omega) | rfl)) | (refine Cnd.ff ?_ ?_; focus (first | (apply decide_eq_false; omega) | (simp only [zq1, zq2, zq3, zq4, zq5, zq6, zq7, zq8, zq9, zq10, zq11, zq12] <;> omega) | rfl))))
                        conv => whnf
                        refine ⟨true, 30, fOps (qOp g) kl.length, i, k, by rw [l1], rfl, by omega, qOps_fit g _ (by omega), qOps_dep _ g _, ?_⟩
                        rw [hw1]
                        repeat ((conv => whnf); (first | refine Cnd.yes ?_ | refine Cnd.no ?_ | refine And.intro rfl ?_ | refine And.intro (by omega) ?_ | (refine And.intro ?_ ?_; focus (simp only [IntKind.wrap_i64, IntKind.wrap_u64, IntKind.wrap_u32]; omega)) | (refine And.intro ?_ ?_; focus (simp only [zl1, zl2, zl3, zl4, zl5, zl6, zl7, zl8, zl9] <;> omega)) | (refine Cnd.tt ?_ ?_; focus (first | (apply decide_eq_true; omega) | (simp only [zq1, zq2, zq3, zq4, zq5, zq6, zq7, zq8, zq9, zq10, zq11, zq12] <;> omega) | rfl)) | (refine Cnd.ff ?_ ?_; focus (first | (apply decide_eq_false; omega) | (simp only [zq1, zq2, zq3, zq4, zq5, zq6, zq7, zq8, zq9, zq10, zq11, zq12] <;> omega) | rfl))))
                        conv => whnf
                        rw [e6, e7]
                        refine ⟨true, 30, fOps (fl g P S) (2 * kl.length), (2 * i : Nat), (2 * k : Nat), by rw [l2], rfl, by omega, fl_fit g P S _ (by omega), fl_dep _ g P S _, ?_⟩
                        rw [hw2]
                        repeat ((conv => whnf); (first | refine Cnd.yes ?_ | refine Cnd.no ?_ | refine And.intro rfl ?_ | refine And.intro (by omega) ?_ | (refine And.intro ?_ ?_; focus (simp only [IntKind.wrap_i64, IntKind.wrap_u64, IntKind.wrap_u32]; omega)) | (refine And.intro ?_ ?_; focus (simp only [zl1, zl2, zl3, zl4, zl5, zl6, zl7, zl8, zl9] <;> omega)) | (refine Cnd.tt ?_ ?_; focus (first | (apply decide_eq_true; omega) | (simp only [zq1, zq2, zq3, zq4, zq5, zq6, zq7, zq8, zq9, zq10, zq11, zq12] <;> omega) | rfl)) | (refine Cnd.ff ?_ ?_; focus (first | (apply decide_eq_false; omega) | (simp only [zq1, zq2, zq3, zq4, zq5, zq6, zq7, zq8, zq9, zq10, zq11, zq12] <;> omega) | rfl))))
                        conv => whnf
                        (refine ⟨(fun s : Nat => kl.length - s) (k + 1), [0, 1, 2], tmk 105 0 ((fun s : Nat => [(0, .slc 0 1 0 kl.length), (1, .v (.int .i64 P)), (2, .v (.int .i64 S)), (8, .slc 1 13 0 kl.length), (9, .slc 2 13 0 (2 * kl.length)), (12, .v (.int .i64 i)), (13, .v (.int .i64 s))]) (k + 1)), (fun s : Nat => [Ent.row false e [.bool] (kl.map brw), .row true 30 ock ((fOps (qOp g) kl.length).map orow), .row true 30 ock ((fOps (fl g P S) (2 * kl.length)).map orow)]) (k + 1), ?_, ?_⟩; focus (first | (simp only []; omega) | omega))
                        repeat ((conv => whnf); (first | refine Cnd.yes ?_ | refine Cnd.no ?_ | refine And.intro rfl ?_ | refine And.intro (by omega) ?_ | (refine And.intro ?_ ?_; focus (simp only [IntKind.wrap_i64, IntKind.wrap_u64, IntKind.wrap_u32]; omega)) | (refine And.intro ?_ ?_; focus (simp only [zl1, zl2, zl3, zl4, zl5, zl6, zl7, zl8, zl9] <;> omega))))
                        conv => whnf
                        exact ⟨k + 1, ⟨by omega, hkn⟩, rfl, rfl, (tmkK_eq _ _ _ _).mpr rfl, rfl⟩
                      | false =>
                        rw [show ab (g i) = 2 by rw [hgi]; rfl, show ab (g k) = 1 by rw [hgk]; rfl, hp, hs] at hw2
                        rw [if_neg (show ¬ (true && false) = true by simp)] at hw2
                        repeat ((conv => whnf); (first | refine Cnd.yes ?_ | refine Cnd.no ?_ | refine And.intro rfl ?_ | refine And.intro (by omega) ?_ | (refine And.intro ?_ ?_; focus (simp only [IntKind.wrap_i64, IntKind.wrap_u64, IntKind.wrap_u32]; omega)) | (refine And.intro ?_ ?_; focus (simp only [zl1, zl2, zl3, zl4, zl5, zl6, zl7, zl8, zl9] <;> omega)) | (refine Cnd.tt ?_ ?_; focus (first | (apply decide_eq_true; omega) | (simp only [zq1, zq2, zq3, zq4, zq5, zq6, zq7, zq8, zq9, zq10, zq11, zq12] <;> omega) | rfl)) | (refine Cnd.ff ?_ ?_; focus (first | (apply decide_eq_false; omega) | (simp only [zq1, zq2, zq3, zq4, zq5, zq6, zq7, zq8, zq9, zq10, zq11, zq12] <;> omega) | rfl))))
                        conv => whnf
                        refine ⟨true, 30, fOps (qOp g) kl.length, i, k, by rw [l1], rfl, by omega, qOps_fit g _ (by omega), qOps_dep _ g _, ?_⟩
                        rw [hw1]
                        repeat ((conv => whnf); (first | refine Cnd.yes ?_ | refine Cnd.no ?_ | refine And.intro rfl ?_ | refine And.intro (by omega) ?_ | (refine And.intro ?_ ?_; focus (simp only [IntKind.wrap_i64, IntKind.wrap_u64, IntKind.wrap_u32]; omega)) | (refine And.intro ?_ ?_; focus (simp only [zl1, zl2, zl3, zl4, zl5, zl6, zl7, zl8, zl9] <;> omega)) | (refine Cnd.tt ?_ ?_; focus (first | (apply decide_eq_true; omega) | (simp only [zq1, zq2, zq3, zq4, zq5, zq6, zq7, zq8, zq9, zq10, zq11, zq12] <;> omega) | rfl)) | (refine Cnd.ff ?_ ?_; focus (first | (apply decide_eq_false; omega) | (simp only [zq1, zq2, zq3, zq4, zq5, zq6, zq7, zq8, zq9, zq10, zq11, zq12] <;> omega) | rfl))))
                        conv => whnf
                        rw [e6, e7]
                        refine ⟨true, 30, fOps (fl g P S) (2 * kl.length), (2 * i : Nat), (2 * k : Nat), by rw [l2], rfl, by omega, fl_fit g P S _ (by omega), fl_dep _ g P S _, ?_⟩
                        rw [hw2]
                        repeat ((conv => whnf); (first | refine Cnd.yes ?_ | refine Cnd.no ?_ | refine And.intro rfl ?_ | refine And.intro (by omega) ?_ | (refine And.intro ?_ ?_; focus (simp only [IntKind.wrap_i64, IntKind.wrap_u64, IntKind.wrap_u32]; omega)) | (refine And.intro ?_ ?_; focus (simp only [zl1, zl2, zl3, zl4, zl5, zl6, zl7, zl8, zl9] <;> omega)) | (refine Cnd.tt ?_ ?_; focus (first | (apply decide_eq_true; omega) | (simp only [zq1, zq2, zq3, zq4, zq5, zq6, zq7, zq8, zq9, zq10, zq11, zq12] <;> omega) | rfl)) | (refine Cnd.ff ?_ ?_; focus (first | (apply decide_eq_false; omega) | (simp only [zq1, zq2, zq3, zq4, zq5, zq6, zq7, zq8, zq9, zq10, zq11, zq12] <;> omega) | rfl))))
                        conv => whnf
                        (refine ⟨(fun s : Nat => kl.length - s) (k + 1), [0, 1, 2], tmk 105 0 ((fun s : Nat => [(0, .slc 0 1 0 kl.length), (1, .v (.int .i64 P)), (2, .v (.int .i64 S)), (8, .slc 1 13 0 kl.length), (9, .slc 2 13 0 (2 * kl.length)), (12, .v (.int .i64 i)), (13, .v (.int .i64 s))]) (k + 1)), (fun s : Nat => [Ent.row false e [.bool] (kl.map brw), .row true 30 ock ((fOps (qOp g) kl.length).map orow), .row true 30 ock ((fOps (fl g P S) (2 * kl.length)).map orow)]) (k + 1), ?_, ?_⟩; focus (first | (simp only []; omega) | omega))
                        repeat ((conv => whnf); (first | refine Cnd.yes ?_ | refine Cnd.no ?_ | refine And.intro rfl ?_ | refine And.intro (by omega) ?_ | (refine And.intro ?_ ?_; focus (simp only [IntKind.wrap_i64, IntKind.wrap_u64, IntKind.wrap_u32]; omega)) | (refine And.intro ?_ ?_; focus (simp only [zl1, zl2, zl3, zl4, zl5, zl6, zl7, zl8, zl9] <;> omega))))
                        conv => whnf
                        exact ⟨k + 1, ⟨by omega, hkn⟩, rfl, rfl, (tmkK_eq _ _ _ _).mpr rfl, rfl⟩
                    | false =>
                      rw [show ab (g i) = 2 by rw [hgi]; rfl, hp, Bool.false_and] at hw2
                      rw [if_neg (show ¬ false = true by simp)] at hw2
                      repeat ((conv => whnf); (first | refine Cnd.yes ?_ | refine Cnd.no ?_ | refine And.intro rfl ?_ | refine And.intro (by omega) ?_ | (refine And.intro ?_ ?_; focus (simp only [IntKind.wrap_i64, IntKind.wrap_u64, IntKind.wrap_u32]; omega)) | (refine And.intro ?_ ?_; focus (simp only [zl1, zl2, zl3, zl4, zl5, zl6, zl7, zl8, zl9] <;> omega)) | (refine Cnd.tt ?_ ?_; focus (first | (apply decide_eq_true; omega) | (simp only [zq1, zq2, zq3, zq4, zq5, zq6, zq7, zq8, zq9, zq10, zq11, zq12] <;> omega) | rfl)) | (refine Cnd.ff ?_ ?_; focus (first | (apply decide_eq_false; omega) | (simp only [zq1, zq2, zq3, zq4, zq5, zq6, zq7, zq8, zq9, zq10, zq11, zq12] <;> omega) | rfl))))
                      conv => whnf
                      refine ⟨true, 30, fOps (qOp g) kl.length, i, k, by rw [l1], rfl, by omega, qOps_fit g _ (by omega), qOps_dep _ g _, ?_⟩
                      rw [hw1]
                      repeat ((conv => whnf); (first | refine Cnd.yes ?_ | refine Cnd.no ?_ | refine And.intro rfl ?_ | refine And.intro (by omega) ?_ | (refine And.intro ?_ ?_; focus (simp only [IntKind.wrap_i64, IntKind.wrap_u64, IntKind.wrap_u32]; omega)) | (refine And.intro ?_ ?_; focus (simp only [zl1, zl2, zl3, zl4, zl5, zl6, zl7, zl8, zl9] <;> omega)) | (refine Cnd.tt ?_ ?_; focus (first | (apply decide_eq_true; omega) | (simp only [zq1, zq2, zq3, zq4, zq5, zq6, zq7, zq8, zq9, zq10, zq11, zq12] <;> omega) | rfl)) | (refine Cnd.ff ?_ ?_; focus (first | (apply decide_eq_false; omega) | (simp only [zq1, zq2, zq3, zq4, zq5, zq6, zq7, zq8, zq9, zq10, zq11, zq12] <;> omega) | rfl))))
                      conv => whnf
                      rw [e6, e7]
                      refine ⟨true, 30, fOps (fl g P S) (2 * kl.length), (2 * i : Nat), (2 * k : Nat), by rw [l2], rfl, by omega, fl_fit g P S _ (by omega), fl_dep _ g P S _, ?_⟩
                      rw [hw2]
                      repeat ((conv => whnf); (first | refine Cnd.yes ?_ | refine Cnd.no ?_ | refine And.intro rfl ?_ | refine And.intro (by omega) ?_ | (refine And.intro ?_ ?_; focus (simp only [IntKind.wrap_i64, IntKind.wrap_u64, IntKind.wrap_u32]; omega)) | (refine And.intro ?_ ?_; focus (simp only [zl1, zl2, zl3, zl4, zl5, zl6, zl7, zl8, zl9] <;> omega)) | (refine Cnd.tt ?_ ?_; focus (first | (apply decide_eq_true; omega) | (simp only [zq1, zq2, zq3, zq4, zq5, zq6, zq7, zq8, zq9, zq10, zq11, zq12] <;> omega) | rfl)) | (refine Cnd.ff ?_ ?_; focus (first | (apply decide_eq_false; omega) | (simp only [zq1, zq2, zq3, zq4, zq5, zq6, zq7, zq8, zq9, zq10, zq11, zq12] <;> omega) | rfl))))
                      conv => whnf
                      (refine ⟨(fun s : Nat => kl.length - s) (k + 1), [0, 1, 2], tmk 105 0 ((fun s : Nat => [(0, .slc 0 1 0 kl.length), (1, .v (.int .i64 P)), (2, .v (.int .i64 S)), (8, .slc 1 13 0 kl.length), (9, .slc 2 13 0 (2 * kl.length)), (12, .v (.int .i64 i)), (13, .v (.int .i64 s))]) (k + 1)), (fun s : Nat => [Ent.row false e [.bool] (kl.map brw), .row true 30 ock ((fOps (qOp g) kl.length).map orow), .row true 30 ock ((fOps (fl g P S) (2 * kl.length)).map orow)]) (k + 1), ?_, ?_⟩; focus (first | (simp only []; omega) | omega))
                      repeat ((conv => whnf); (first | refine Cnd.yes ?_ | refine Cnd.no ?_ | refine And.intro rfl ?_ | refine And.intro (by omega) ?_ | (refine And.intro ?_ ?_; focus (simp only [IntKind.wrap_i64, IntKind.wrap_u64, IntKind.wrap_u32]; omega)) | (refine And.intro ?_ ?_; focus (simp only [zl1, zl2, zl3, zl4, zl5, zl6, zl7, zl8, zl9] <;> omega))))
                      conv => whnf
                      exact ⟨k + 1, ⟨by omega, hkn⟩, rfl, rfl, (tmkK_eq _ _ _ _).mpr rfl, rfl⟩
                | false =>
                  repeat ((conv => whnf); (first | refine Cnd.yes ?_ | refine Cnd.no ?_ | refine And.intro rfl ?_ | refine And.intro (by omega) ?_ | (refine And.intro ?_ ?_; focus (simp only [IntKind.wrap_i64, IntKind.wrap_u64, IntKind.wrap_u32]; omega)) | (refine And.intro ?_ ?_; focus (simp only [zl1, zl2, zl3, zl4, zl5, zl6, zl7, zl8, zl9] <;> omega)) | (refine Cnd.tt ?_ ?_; focus (first | (apply decide_eq_true; omega) | (simp only [zq1, zq2, zq3, zq4, zq5, zq6, zq7, zq8, zq9, zq10, zq11, zq12] <;> omega) | rfl)) | (refine Cnd.ff ?_ ?_; focus (first | (apply decide_eq_false; omega) | (simp only [zq1, zq2, zq3, zq4, zq5, zq6, zq7, zq8, zq9, zq10, zq11, zq12] <;> omega) | rfl))))
                  conv => whnf
                  rw [e1]
                  cases hgk : g k with
                  | true =>
                    repeat ((conv => whnf); (first | refine Cnd.yes ?_ | refine Cnd.no ?_ | refine And.intro rfl ?_ | refine And.intro (by omega) ?_ | (refine And.intro ?_ ?_; focus (simp only [IntKind.wrap_i64, IntKind.wrap_u64, IntKind.wrap_u32]; omega)) | (refine And.intro ?_ ?_; focus (simp only [zl1, zl2, zl3, zl4, zl5, zl6, zl7, zl8, zl9] <;> omega)) | (refine Cnd.tt ?_ ?_; focus (first | (apply decide_eq_true; omega) | (simp only [zq1, zq2, zq3, zq4, zq5, zq6, zq7, zq8, zq9, zq10, zq11, zq12] <;> omega) | rfl)) | (refine Cnd.ff ?_ ?_; focus (first | (apply decide_eq_false; omega) | (simp only [zq1, zq2, zq3, zq4, zq5, zq6, zq7, zq8, zq9, zq10, zq11, zq12] <;> omega) | rfl))))
                    conv => whnf
                    rw [show (IntKind.i64.wrap (BitVec.ofInt IntKind.i64.bits P &&& BitVec.ofInt IntKind.i64.bits 1).toNat != 0) = bitB P 1 from rfl]
                    cases hp : bitB P 1 with
                    | true =>
                      repeat ((conv => whnf); (first | refine Cnd.yes ?_ | refine Cnd.no ?_ | refine And.intro rfl ?_ | refine And.intro (by omega) ?_ | (refine And.intro ?_ ?_; focus (simp only [IntKind.wrap_i64, IntKind.wrap_u64, IntKind.wrap_u32]; omega)) | (refine And.intro ?_ ?_; focus (simp only [zl1, zl2, zl3, zl4, zl5, zl6, zl7, zl8, zl9] <;> omega)) | (refine Cnd.tt ?_ ?_; focus (first | (apply decide_eq_true; omega) | (simp only [zq1, zq2, zq3, zq4, zq5, zq6, zq7, zq8, zq9, zq10, zq11, zq12] <;> omega) | rfl)) | (refine Cnd.ff ?_ ?_; focus (first | (apply decide_eq_false; omega) | (simp only [zq1, zq2, zq3, zq4, zq5, zq6, zq7, zq8, zq9, zq10, zq11, zq12] <;> omega) | rfl))))
                      conv => whnf
                      rw [show (IntKind.i64.wrap (BitVec.ofInt IntKind.i64.bits S &&& BitVec.ofInt IntKind.i64.bits 2).toNat != 0) = bitB S 2 from rfl]
                      cases hs : bitB S 2 with
                      | true =>
                        rw [show ab (g i) = 1 by rw [hgi]; rfl, show ab (g k) = 2 by rw [hgk]; rfl, hp, hs] at hw2
                        rw [if_pos (show (true && true) = true from rfl)] at hw2
                        repeat ((conv => whnf); (first | refine Cnd.yes ?_ | refine Cnd.no ?_ | refine And.intro rfl ?_ | refine And.intro (by omega) ?_ | (refine And.intro ?_ ?_; focus (simp only [IntKind.wrap_i64, IntKind.wrap_u64, IntKind.wrap_u32]; omega)) | (refine And.intro ?_ ?_; focus (simp only [zl1, zl2, zl3, zl4, zl5, zl6, zl7, zl8, zl9] <;> omega)) | (refine Cnd.tt ?_ ?_; focus (first | (apply decide_eq_true; omega) | (simp only [zq1, zq2, zq3, zq4, zq5, zq6, zq7, zq8, zq9, zq10, zq11, zq12] <;> omega) | rfl)) | (refine Cnd.ff ?_ ?_; focus (first | (apply decide_eq_false; omega) | (simp only [zq1, zq2, zq3, zq4, zq5, zq6, zq7, zq8, zq9, zq10, zq11, zq12] <;> omega) | rfl))))
                        conv => whnf
                        refine ⟨true, 30, fOps (qOp g) kl.length, i, k, by rw [l1], rfl, by omega, qOps_fit g _ (by omega), qOps_dep _ g _, ?_⟩
                        rw [hw1]
                        repeat ((conv => whnf); (first | refine Cnd.yes ?_ | refine Cnd.no ?_ | refine And.intro rfl ?_ | refine And.intro (by omega) ?_ | (refine And.intro ?_ ?_; focus (simp only [IntKind.wrap_i64, IntKind.wrap_u64, IntKind.wrap_u32]; omega)) | (refine And.intro ?_ ?_; focus (simp only [zl1, zl2, zl3, zl4, zl5, zl6, zl7, zl8, zl9] <;> omega)) | (refine Cnd.tt ?_ ?_; focus (first | (apply decide_eq_true; omega) | (simp only [zq1, zq2, zq3, zq4, zq5, zq6, zq7, zq8, zq9, zq10, zq11, zq12] <;> omega) | rfl)) | (refine Cnd.ff ?_ ?_; focus (first | (apply decide_eq_false; omega) | (simp only [zq1, zq2, zq3, zq4, zq5, zq6, zq7, zq8, zq9, zq10, zq11, zq12] <;> omega) | rfl))))
                        conv => whnf
                        rw [e6, e7]
                        refine ⟨true, 30, fOps (fl g P S) (2 * kl.length), (2 * i : Nat), (2 * k : Nat), by rw [l2], rfl, by omega, fl_fit g P S _ (by omega), fl_dep _ g P S _, ?_⟩
                        rw [hw2]
                        repeat ((conv => whnf); (first | refine Cnd.yes ?_ | refine Cnd.no ?_ | refine And.intro rfl ?_ | refine And.intro (by omega) ?_ | (refine And.intro ?_ ?_; focus (simp only [IntKind.wrap_i64, IntKind.wrap_u64, IntKind.wrap_u32]; omega)) | (refine And.intro ?_ ?_; focus (simp only [zl1, zl2, zl3, zl4, zl5, zl6, zl7, zl8, zl9] <;> omega)) | (refine Cnd.tt ?_ ?_; focus (first | (apply decide_eq_true; omega) | (simp only [zq1, zq2, zq3, zq4, zq5, zq6, zq7, zq8, zq9, zq10, zq11, zq12] <;> omega) | rfl)) | (refine Cnd.ff ?_ ?_; focus (first | (apply decide_eq_false; omega) | (simp only [zq1, zq2, zq3, zq4, zq5, zq6, zq7, zq8, zq9, zq10, zq11, zq12] <;> omega) | rfl))))
                        conv => whnf
                        (refine ⟨(fun s : Nat => kl.length - s) (k + 1), [0, 1, 2], tmk 105 0 ((fun s : Nat => [(0, .slc 0 1 0 kl.length), (1, .v (.int .i64 P)), (2, .v (.int .i64 S)), (8, .slc 1 13 0 kl.length), (9, .slc 2 13 0 (2 * kl.length)), (12, .v (.int .i64 i)), (13, .v (.int .i64 s))]) (k + 1)), (fun s : Nat => [Ent.row false e [.bool] (kl.map brw), .row true 30 ock ((fOps (qOp g) kl.length).map orow), .row true 30 ock ((fOps (fl g P S) (2 * kl.length)).map orow)]) (k + 1), ?_, ?_⟩; focus (first | (simp only []; omega) | omega))
                        repeat ((conv => whnf); (first | refine Cnd.yes ?_ | refine Cnd.no ?_ | refine And.intro rfl ?_ | refine And.intro (by omega) ?_ | (refine And.intro ?_ ?_; focus (simp only [IntKind.wrap_i64, IntKind.wrap_u64, IntKind.wrap_u32]; omega)) | (refine And.intro ?_ ?_; focus (simp only [zl1, zl2, zl3, zl4, zl5, zl6, zl7, zl8, zl9] <;> omega))))
                        conv => whnf
                        exact ⟨k + 1, ⟨by omega, hkn⟩, rfl, rfl, (tmkK_eq _ _ _ _).mpr rfl, rfl⟩
                      | false =>
                        rw [show ab (g i) = 1 by rw [hgi]; rfl, show ab (g k) = 2 by rw [hgk]; rfl, hp, hs] at hw2
                        rw [if_neg (show ¬ (true && false) = true by simp)] at hw2
                        repeat ((conv => whnf); (first | refine Cnd.yes ?_ | refine Cnd.no ?_ | refine And.intro rfl ?_ | refine And.intro (by omega) ?_ | (refine And.intro ?_ ?_; focus (simp only [IntKind.wrap_i64, IntKind.wrap_u64, IntKind.wrap_u32]; omega)) | (refine And.intro ?_ ?_; focus (simp only [zl1, zl2, zl3, zl4, zl5, zl6, zl7, zl8, zl9] <;> omega)) | (refine Cnd.tt ?_ ?_; focus (first | (apply decide_eq_true; omega) | (simp only [zq1, zq2, zq3, zq4, zq5, zq6, zq7, zq8, zq9, zq10, zq11, zq12] <;> omega) | rfl)) | (refine Cnd.ff ?_ ?_; focus (first | (apply decide_eq_false; omega) | (simp only [zq1, zq2, zq3, zq4, zq5, zq6, zq7, zq8, zq9, zq10, zq11, zq12] <;> omega) | rfl))))
                        conv => whnf
                        refine ⟨true, 30, fOps (qOp g) kl.length, i, k, by rw [l1], rfl, by omega, qOps_fit g _ (by omega), qOps_dep _ g _, ?_⟩
                        rw [hw1]
                        repeat ((conv => whnf); (first | refine Cnd.yes ?_ | refine Cnd.no ?_ | refine And.intro rfl ?_ | refine And.intro (by omega) ?_ | (refine And.intro ?_ ?_; focus (simp only [IntKind.wrap_i64, IntKind.wrap_u64, IntKind.wrap_u32]; omega)) | (refine And.intro ?_ ?_; focus (simp only [zl1, zl2, zl3, zl4, zl5, zl6, zl7, zl8, zl9] <;> omega)) | (refine Cnd.tt ?_ ?_; focus (first | (apply decide_eq_true; omega) | (simp only [zq1, zq2, zq3, zq4, zq5, zq6, zq7, zq8, zq9, zq10, zq11, zq12] <;> omega) | rfl)) | (refine Cnd.ff ?_ ?_; focus (first | (apply decide_eq_false; omega) | (simp only [zq1, zq2, zq3, zq4, zq5, zq6, zq7, zq8, zq9, zq10, zq11, zq12] <;> omega) | rfl))))
                        conv => whnf
                        rw [e6, e7]
                        refine ⟨true, 30, fOps (fl g P S) (2 * kl.length), (2 * i : Nat), (2 * k : Nat), by rw [l2], rfl, by omega, fl_fit g P S _ (by omega), fl_dep _ g P S _, ?_⟩
                        rw [hw2]
                        repeat ((conv => whnf); (first | refine Cnd.yes ?_ | refine Cnd.no ?_ | refine And.intro rfl ?_ | refine And.intro (by omega) ?_ | (refine And.intro ?_ ?_; focus (simp only [IntKind.wrap_i64, IntKind.wrap_u64, IntKind.wrap_u32]; omega)) | (refine And.intro ?_ ?_; focus (simp only [zl1, zl2, zl3, zl4, zl5, zl6, zl7, zl8, zl9] <;> omega)) | (refine Cnd.tt ?_ ?_; focus (first | (apply decide_eq_true; omega) | (simp only [zq1, zq2, zq3, zq4, zq5, zq6, zq7, zq8, zq9, zq10, zq11, zq12] <;> omega) | rfl)) | (refine Cnd.ff ?_ ?_; focus (first | (apply decide_eq_false; omega) | (simp only [zq1, zq2, zq3, zq4, zq5, zq6, zq7, zq8, zq9, zq10, zq11, zq12] <;> omega) | rfl))))
                        conv => whnf
                        (refine ⟨(fun s : Nat => kl.length - s) (k + 1), [0, 1, 2], tmk 105 0 ((fun s : Nat => [(0, .slc 0 1 0 kl.length), (1, .v (.int .i64 P)), (2, .v (.int .i64 S)), (8, .slc 1 13 0 kl.length), (9, .slc 2 13 0 (2 * kl.length)), (12, .v (.int .i64 i)), (13, .v (.int .i64 s))]) (k + 1)), (fun s : Nat => [Ent.row false e [.bool] (kl.map brw), .row true 30 ock ((fOps (qOp g) kl.length).map orow), .row true 30 ock ((fOps (fl g P S) (2 * kl.length)).map orow)]) (k + 1), ?_, ?_⟩; focus (first | (simp only []; omega) | omega))
                        repeat ((conv => whnf); (first | refine Cnd.yes ?_ | refine Cnd.no ?_ | refine And.intro rfl ?_ | refine And.intro (by omega) ?_ | (refine And.intro ?_ ?_; focus (simp only [IntKind.wrap_i64, IntKind.wrap_u64, IntKind.wrap_u32]; omega)) | (refine And.intro ?_ ?_; focus (simp only [zl1, zl2, zl3, zl4, zl5, zl6, zl7, zl8, zl9] <;> omega))))
                        conv => whnf
                        exact ⟨k + 1, ⟨by omega, hkn⟩, rfl, rfl, (tmkK_eq _ _ _ _).mpr rfl, rfl⟩
                    | false =>
                      rw [show ab (g i) = 1 by rw [hgi]; rfl, hp, Bool.false_and] at hw2
                      rw [if_neg (show ¬ false = true by simp)] at hw2
                      repeat ((conv => whnf); (first | refine Cnd.yes ?_ | refine Cnd.no ?_ | refine And.intro rfl ?_ | refine And.intro (by omega) ?_ | (refine And.intro ?_ ?_; focus (simp only [IntKind.wrap_i64, IntKind.wrap_u64, IntKind.wrap_u32]; omega)) | (refine And.intro ?_ ?_; focus (simp only [zl1, zl2, zl3, zl4, zl5, zl6, zl7, zl8, zl9] <;> omega)) | (refine Cnd.tt ?_ ?_; focus (first | (apply decide_eq_true; omega) | (simp only [zq1, zq2, zq3, zq4, zq5, zq6, zq7, zq8, zq9, zq10, zq11, zq12] <;> omega) | rfl)) | (refine Cnd.ff ?_ ?_; focus (first | (apply decide_eq_false; omega) | (simp only [zq1, zq2, zq3, zq4, zq5, zq6, zq7, zq8, zq9, zq10, zq11, zq12] <;> omega) | rfl))))
                      conv => whnf
                      refine ⟨true, 30, fOps (qOp g) kl.length, i, k, by rw [l1], rfl, by omega, qOps_fit g _ (by omega), qOps_dep _ g _, ?_⟩
                      rw [hw1]
                      repeat ((conv => whnf); (first | refine Cnd.yes ?_ | refine Cnd.no ?_ | refine And.intro rfl ?_ | refine And.intro (by omega) ?_ | (refine And.intro ?_ ?_; focus (simp only [IntKind.wrap_i64, IntKind.wrap_u64, IntKind.wrap_u32]; omega)) | (refine And.intro ?_ ?_; focus (simp only [zl1, zl2, zl3, zl4, zl5, zl6, zl7, zl8, zl9] <;> omega)) | (refine Cnd.tt ?_ ?_; focus (first | (apply decide_eq_true; omega) | (simp only [zq1, zq2, zq3, zq4, zq5, zq6, zq7, zq8, zq9, zq10, zq11, zq12] <;> omega) | rfl)) | (refine Cnd.ff ?_ ?_; focus (first | (apply decide_eq_false; omega) | (simp only [zq1, zq2, zq3, zq4, zq5, zq6, zq7, zq8, zq9, zq10, zq11, zq12] <;> omega) | rfl))))
                      conv => whnf
                      rw [e6, e7]
                      refine ⟨true, 30, fOps (fl g P S) (2 * kl.length), (2 * i : Nat), (2 * k : Nat), by rw [l2], rfl, by omega, fl_fit g P S _ (by omega), fl_dep _ g P S _, ?_⟩
                      rw [hw2]
                      repeat ((conv => whnf); (first | refine Cnd.yes ?_ | refine Cnd.no ?_ | refine And.intro rfl ?_ | refine And.intro (by omega) ?_ | (refine And.intro ?_ ?_; focus (simp only [IntKind.wrap_i64, IntKind.wrap_u64, IntKind.wrap_u32]; omega)) | (refine And.intro ?_ ?_; focus (simp only [zl1, zl2, zl3, zl4, zl5, zl6, zl7, zl8, zl9] <;> omega)) | (refine Cnd.tt ?_ ?_; focus (first | (apply decide_eq_true; omega) | (simp only [zq1, zq2, zq3, zq4, zq5, zq6, zq7, zq8, zq9, zq10, zq11, zq12] <;> omega) | rfl)) | (refine Cnd.ff ?_ ?_; focus (first | (apply decide_eq_false; omega) | (simp only [zq1, zq2, zq3, zq4, zq5, zq6, zq7, zq8, zq9, zq10, zq11, zq12] <;> omega) | rfl))))
                      conv => whnf
                      (refine ⟨(fun s : Nat => kl.length - s) (k + 1), [0, 1, 2], tmk 105 0 ((fun s : Nat => [(0, .slc 0 1 0 kl.length), (1, .v (.int .i64 P)), (2, .v (.int .i64 S)), (8, .slc 1 13 0 kl.length), (9, .slc 2 13 0 (2 * kl.length)), (12, .v (.int .i64 i)), (13, .v (.int .i64 s))]) (k + 1)), (fun s : Nat => [Ent.row false e [.bool] (kl.map brw), .row true 30 ock ((fOps (qOp g) kl.length).map orow), .row true 30 ock ((fOps (fl g P S) (2 * kl.length)).map orow)]) (k + 1), ?_, ?_⟩; focus (first | (simp only []; omega) | omega))
                      repeat ((conv => whnf); (first | refine Cnd.yes ?_ | refine Cnd.no ?_ | refine And.intro rfl ?_ | refine And.intro (by omega) ?_ | (refine And.intro ?_ ?_; focus (simp only [IntKind.wrap_i64, IntKind.wrap_u64, IntKind.wrap_u32]; omega)) | (refine And.intro ?_ ?_; focus (simp only [zl1, zl2, zl3, zl4, zl5, zl6, zl7, zl8, zl9] <;> omega))))
                      conv => whnf
                      exact ⟨k + 1, ⟨by omega, hkn⟩, rfl, rfl, (tmkK_eq _ _ _ _).mpr rfl, rfl⟩
                  | false =>
                    repeat ((conv => whnf); (first | refine Cnd.yes ?_ | refine Cnd.no ?_ | refine And.intro rfl ?_ | refine And.intro (by omega) ?_ | (refine And.intro ?_ ?_; focus (simp only [IntKind.wrap_i64, IntKind.wrap_u64, IntKind.wrap_u32]; omega)) | (refine And.intro ?_ ?_; focus (simp only [zl1, zl2, zl3, zl4, zl5, zl6, zl7, zl8, zl9] <;> omega)) | (refine Cnd.tt ?_ ?_; focus (first | (apply decide_eq_true; omega) | (simp only [zq1, zq2, zq3, zq4, zq5, zq6, zq7, zq8, zq9, zq10, zq11, zq12] <;> omega) | rfl)) | (refine Cnd.ff ?_ ?_; focus (first | (apply decide_eq_false; omega) | (simp only [zq1, zq2, zq3, zq4, zq5, zq6, zq7, zq8, zq9, zq10, zq11, zq12] <;> omega) | rfl))))
                    conv => whnf
                    rw [show (IntKind.i64.wrap (BitVec.ofInt IntKind.i64.bits P &&& BitVec.ofInt IntKind.i64.bits 1).toNat != 0) = bitB P 1 from rfl]
                    cases hp : bitB P 1 with
                    | true =>
                      repeat ((conv => whnf); (first | refine Cnd.yes ?_ | refine Cnd.no ?_ | refine And.intro rfl ?_ | refine And.intro (by omega) ?_ | (refine And.intro ?_ ?_; focus (simp only [IntKind.wrap_i64, IntKind.wrap_u64, IntKind.wrap_u32]; omega)) | (refine And.intro ?_ ?_; focus (simp only [zl1, zl2, zl3, zl4, zl5, zl6, zl7, zl8, zl9] <;> omega)) | (refine Cnd.tt ?_ ?_; focus (first | (apply decide_eq_true; omega) | (simp only [zq1, zq2, zq3, zq4, zq5, zq6, zq7, zq8, zq9, zq10, zq11, zq12] <;> omega) | rfl)) | (refine Cnd.ff ?_ ?_; focus (first | (apply decide_eq_false; omega) | (simp only [zq1, zq2, zq3, zq4, zq5, zq6, zq7, zq8, zq9, zq10, zq11, zq12] <;> omega) | rfl))))
                      conv => whnf
                      rw [show (IntKind.i64.wrap (BitVec.ofInt IntKind.i64.bits S &&& BitVec.ofInt IntKind.i64.bits 1).toNat != 0) = bitB S 1 from rfl]
                      cases hs : bitB S 1 with
                      | true =>
                        rw [show ab (g i) = 1 by rw [hgi]; rfl, show ab (g k) = 1 by rw [hgk]; rfl, hp, hs] at hw2
                        rw [if_pos (show (true && true) = true from rfl)] at hw2
                        repeat ((conv => whnf); (first | refine Cnd.yes ?_ | refine Cnd.no ?_ | refine And.intro rfl ?_ | refine And.intro (by omega) ?_ | (refine And.intro ?_ ?_; focus (simp only [IntKind.wrap_i64, IntKind.wrap_u64, IntKind.wrap_u32]; omega)) | (refine And.intro ?_ ?_; focus (simp only [zl1, zl2, zl3, zl4, zl5, zl6, zl7, zl8, zl9] <;> omega)) | (refine Cnd.tt ?_ ?_; focus (first | (apply decide_eq_true; omega) | (simp only [zq1, zq2, zq3, zq4, zq5, zq6, zq7, zq8, zq9, zq10, zq11, zq12] <;> omega) | rfl)) | (refine Cnd.ff ?_ ?_; focus (first | (apply decide_eq_false; omega) | (simp only [zq1, zq2, zq3, zq4, zq5, zq6, zq7, zq8, zq9, zq10, zq11, zq12] <;> omega) | rfl))))
                        conv => whnf
                        refine ⟨true, 30, fOps (qOp g) kl.length, i, k, by rw [l1], rfl, by omega, qOps_fit g _ (by omega), qOps_dep _ g _, ?_⟩
                        rw [hw1]
                        repeat ((conv => whnf); (first | refine Cnd.yes ?_ | refine Cnd.no ?_ | refine And.intro rfl ?_ | refine And.intro (by omega) ?_ | (refine And.intro ?_ ?_; focus (simp only [IntKind.wrap_i64, IntKind.wrap_u64, IntKind.wrap_u32]; omega)) | (refine And.intro ?_ ?_; focus (simp only [zl1, zl2, zl3, zl4, zl5, zl6, zl7, zl8, zl9] <;> omega)) | (refine Cnd.tt ?_ ?_; focus (first | (apply decide_eq_true; omega) | (simp only [zq1, zq2, zq3, zq4, zq5, zq6, zq7, zq8, zq9, zq10, zq11, zq12] <;> omega) | rfl)) | (refine Cnd.ff ?_ ?_; focus (first | (apply decide_eq_false; omega) | (simp only [zq1, zq2, zq3, zq4, zq5, zq6, zq7, zq8, zq9, zq10, zq11, zq12] <;> omega) | rfl))))
                        conv => whnf
                        rw [e6, e7]
                        refine ⟨true, 30, fOps (fl g P S) (2 * kl.length), (2 * i : Nat), (2 * k : Nat), by rw [l2], rfl, by omega, fl_fit g P S _ (by omega), fl_dep _ g P S _, ?_⟩
                        rw [hw2]
                        repeat ((conv => whnf); (first | refine Cnd.yes ?_ | refine Cnd.no ?_ | refine And.intro rfl ?_ | refine And.intro (by omega) ?_ | (refine And.intro ?_ ?_; focus (simp only [IntKind.wrap_i64, IntKind.wrap_u64, IntKind.wrap_u32]; omega)) | (refine And.intro ?_ ?_; focus (simp only [zl1, zl2, zl3, zl4, zl5, zl6, zl7, zl8, zl9] <;> omega)) | (refine Cnd.tt ?_ ?_; focus (first | (apply decide_eq_true; omega) | (simp only [zq1, zq2, zq3, zq4, zq5, zq6, zq7, zq8, zq9, zq10, zq11, zq12] <;> omega) | rfl)) | (refine Cnd.ff ?_ ?_; focus (first | (apply decide_eq_false; omega) | (simp only [zq1, zq2, zq3, zq4, zq5, zq6, zq7, zq8, zq9, zq10, zq11, zq12] <;> omega) | rfl))))
                        conv => whnf
                        (refine ⟨(fun s : Nat => kl.length - s) (k + 1), [0, 1, 2], tmk 105 0 ((fun s : Nat => [(0, .slc 0 1 0 kl.length), (1, .v (.int .i64 P)), (2, .v (.int .i64 S)), (8, .slc 1 13 0 kl.length), (9, .slc 2 13 0 (2 * kl.length)), (12, .v (.int .i64 i)), (13, .v (.int .i64 s))]) (k + 1)), (fun s : Nat => [Ent.row false e [.bool] (kl.map brw), .row true 30 ock ((fOps (qOp g) kl.length).map orow), .row true 30 ock ((fOps (fl g P S) (2 * kl.length)).map orow)]) (k + 1), ?_, ?_⟩; focus (first | (simp only []; omega) | omega))
                        repeat ((conv => whnf); (first | refine Cnd.yes ?_ | refine Cnd.no ?_ | refine And.intro rfl ?_ | refine And.intro (by omega) ?_ | (refine And.intro ?_ ?_; focus (simp only [IntKind.wrap_i64, IntKind.wrap_u64, IntKind.wrap_u32]; omega)) | (refine And.intro ?_ ?_; focus (simp only [zl1, zl2, zl3, zl4, zl5, zl6, zl7, zl8, zl9] <;> omega))))
                        conv => whnf
                        exact ⟨k + 1, ⟨by omega, hkn⟩, rfl, rfl, (tmkK_eq _ _ _ _).mpr rfl, rfl⟩
                      | false =>
                        rw [show ab (g i) = 1 by rw [hgi]; rfl, show ab (g k) = 1 by rw [hgk]; rfl, hp, hs] at hw2
                        rw [if_neg (show ¬ (true && false) = true by simp)] at hw2
                        repeat ((conv => whnf); (first | refine Cnd.yes ?_ | refine Cnd.no ?_ | refine And.intro rfl ?_ | refine And.intro (by omega) ?_ | (refine And.intro ?_ ?_; focus (simp only [IntKind.wrap_i64, IntKind.wrap_u64, IntKind.wrap_u32]; omega)) | (refine And.intro ?_ ?_; focus (simp only [zl1, zl2, zl3, zl4, zl5, zl6, zl7, zl8, zl9] <;> omega)) | (refine Cnd.tt ?_ ?_; focus (first | (apply decide_eq_true; omega) | (simp only [zq1, zq2, zq3, zq4, zq5, zq6, zq7, zq8, zq9, zq10, zq11, zq12] <;> omega) | rfl)) | (refine Cnd.ff ?_ ?_; focus (first | (apply decide_eq_false; omega) | (simp only [zq1, zq2, zq3, zq4, zq5, zq6, zq7, zq8, zq9, zq10, zq11, zq12] <;> omega) | rfl))))
                        conv => whnf
                        refine ⟨true, 30, fOps (qOp g) kl.length, i, k, by rw [l1], rfl, by omega, qOps_fit g _ (by omega), qOps_dep _ g _, ?_⟩
                        rw [hw1]
                        repeat ((conv => whnf); (first | refine Cnd.yes ?_ | refine Cnd.no ?_ | refine And.intro rfl ?_ | refine And.intro (by omega) ?_ | (refine And.intro ?_ ?_; focus (simp only [IntKind.wrap_i64, IntKind.wrap_u64, IntKind.wrap_u32]; omega)) | (refine And.intro ?_ ?_; focus (simp only [zl1, zl2, zl3, zl4, zl5, zl6, zl7, zl8, zl9] <;> omega)) | (refine Cnd.tt ?_ ?_; focus (first | (apply decide_eq_true; omega) | (simp only [zq1, zq2, zq3, zq4, zq5, zq6, zq7, zq8, zq9, zq10, zq11, zq12] <;> omega) | rfl)) | (refine Cnd.ff ?_ ?_; focus (first | (apply decide_eq_false; omega) | (simp only [zq1, zq2, zq3, zq4, zq5, zq6, zq7, zq8, zq9, zq10, zq11, zq12] <;> omega) | rfl))))
                        conv => whnf
                        rw [e6, e7]
                        refine ⟨true, 30, fOps (fl g P S) (2 * kl.length), (2 * i : Nat), (2 * k : Nat), by rw [l2], rfl, by omega, fl_fit g P S _ (by omega), fl_dep _ g P S _, ?_⟩
                        rw [hw2]
                        repeat ((conv => whnf); (first | refine Cnd.yes ?_ | refine Cnd.no ?_ | refine And.intro rfl ?_ | refine And.intro (by omega) ?_ | (refine And.intro ?_ ?_; focus (simp only [IntKind.wrap_i64, IntKind.wrap_u64, IntKind.wrap_u32]; omega)) | (refine And.intro ?_ ?_; focus (simp only [zl1, zl2, zl3, zl4, zl5, zl6, zl7, zl8, zl9] <;> omega)) | (refine Cnd.tt ?_ ?_; focus (first | (apply decide_eq_true; omega) | (simp only [zq1, zq2, zq3, zq4, zq5, zq6, zq7, zq8, zq9, zq10, zq11, zq12] <;> omega) | rfl)) | (refine Cnd.ff ?_ ?_; focus (first | (apply decide_eq_false; omega) | (simp only [zq1, zq2, zq3, zq4, zq5, zq6, zq7, zq8, zq9, zq10, zq11, zq12] <;> omega) | rfl))))
                        conv => whnf
                        (refine ⟨(fun s : Nat => kl.length - s) (k + 1), [0, 1, 2], tmk 105 0 ((fun s : Nat => [(0, .slc 0 1 0 kl.length), (1, .v (.int .i64 P)), (2, .v (.int .i64 S)), (8, .slc 1 13 0 kl.length), (9, .slc 2 13 0 (2 * kl.length)), (12, .v (.int .i64 i)), (13, .v (.int .i64 s))]) (k + 1)), (fun s : Nat => [Ent.row false e [.bool] (kl.map brw), .row true 30 ock ((fOps (qOp g) kl.length).map orow), .row true 30 ock ((fOps (fl g P S) (2 * kl.length)).map orow)]) (k + 1), ?_, ?_⟩; focus (first | (simp only []; omega) | omega))
                        repeat ((conv => whnf); (first | refine Cnd.yes ?_ | refine Cnd.no ?_ | refine And.intro rfl ?_ | refine And.intro (by omega) ?_ | (refine And.intro ?_ ?_; focus (simp only [IntKind.wrap_i64, IntKind.wrap_u64, IntKind.wrap_u32]; omega)) | (refine And.intro ?_ ?_; focus (simp only [zl1, zl2, zl3, zl4, zl5, zl6, zl7, zl8, zl9] <;> omega))))
                        conv => whnf
                        exact ⟨k + 1, ⟨by omega, hkn⟩, rfl, rfl, (tmkK_eq _ _ _ _).mpr rfl, rfl⟩
                    | false =>
                      rw [show ab (g i) = 1 by rw [hgi]; rfl, hp, Bool.false_and] at hw2
                      rw [if_neg (show ¬ false = true by simp)] at hw2
                      repeat ((conv => whnf); (first | refine Cnd.yes ?_ | refine Cnd.no ?_ | refine And.intro rfl ?_ | refine And.intro (by omega) ?_ | (refine And.intro ?_ ?_; focus (simp only [IntKind.wrap_i64, IntKind.wrap_u64, IntKind.wrap_u32]; omega)) | (refine And.intro ?_ ?_; focus (simp only [zl1, zl2, zl3, zl4, zl5, zl6, zl7, zl8, zl9] <;> omega)) | (refine Cnd.tt ?_ ?_; focus (first | (apply decide_eq_true; omega) | (simp only [zq1, zq2, zq3, zq4, zq5, zq6, zq7, zq8, zq9, zq10, zq11, zq12] <;> omega) | rfl)) | (refine Cnd.ff ?_ ?_; focus (first | (apply decide_eq_false; omega) | (simp only [zq1, zq2, zq3, zq4, zq5, zq6, zq7, zq8, zq9, zq10, zq11, zq12] <;> omega) | rfl))))
                      conv => whnf
                      refine ⟨true, 30, fOps (qOp g) kl.length, i, k, by rw [l1], rfl, by omega, qOps_fit g _ (by omega), qOps_dep _ g _, ?_⟩
                      rw [hw1]
                      repeat ((conv => whnf); (first | refine Cnd.yes ?_ | refine Cnd.no ?_ | refine And.intro rfl ?_ | refine And.intro (by omega) ?_ | (refine And.intro ?_ ?_; focus (simp only [IntKind.wrap_i64, IntKind.wrap_u64, IntKind.wrap_u32]; omega)) | (refine And.intro ?_ ?_; focus (simp only [zl1, zl2, zl3, zl4, zl5, zl6, zl7, zl8, zl9] <;> omega)) | (refine Cnd.tt ?_ ?_; focus (first | (apply decide_eq_true; omega) | (simp only [zq1, zq2, zq3, zq4, zq5, zq6, zq7, zq8, zq9, zq10, zq11, zq12] <;> omega) | rfl)) | (refine Cnd.ff ?_ ?_; focus (first | (apply decide_eq_false; omega) | (simp only [zq1, zq2, zq3, zq4, zq5, zq6, zq7, zq8, zq9, zq10, zq11, zq12] <;> omega) | rfl))))
                      conv => whnf
                      rw [e6, e7]
                      refine ⟨true, 30, fOps (fl g P S) (2 * kl.length), (2 * i : Nat), (2 * k : Nat), by rw [l2], rfl, by omega, fl_fit g P S _ (by omega), fl_dep _ g P S _, ?_⟩
                      rw [hw2]
                      repeat ((conv => whnf); (first | refine Cnd.yes ?_ | refine Cnd.no ?_ | refine And.intro rfl ?_ | refine And.intro (by omega) ?_ | (refine And.intro ?_ ?_; focus (simp only [IntKind.wrap_i64, IntKind.wrap_u64, IntKind.wrap_u32]; omega)) | (refine And.intro ?_ ?_; focus (simp only [zl1, zl2, zl3, zl4, zl5, zl6, zl7, zl8, zl9] <;> omega)) | (refine Cnd.tt ?_ ?_; focus (first | (apply decide_eq_true; omega) | (simp only [zq1, zq2, zq3, zq4, zq5, zq6, zq7, zq8, zq9, zq10, zq11, zq12] <;> omega) | rfl)) | (refine Cnd.ff ?_ ?_; focus (first | (apply decide_eq_false; omega) | (simp only [zq1, zq2, zq3, zq4, zq5, zq6, zq7, zq8, zq9, zq10, zq11, zq12] <;> omega) | rfl))))
                      conv => whnf
                      (refine ⟨(fun s : Nat => kl.length - s) (k + 1), [0, 1, 2], tmk 105 0 ((fun s : Nat => [(0, .slc 0 1 0 kl.length), (1, .v (.int .i64 P)), (2, .v (.int .i64 S)), (8, .slc 1 13 0 kl.length), (9, .slc 2 13 0 (2 * kl.length)), (12, .v (.int .i64 i)), (13, .v (.int .i64 s))]) (k + 1)), (fun s : Nat => [Ent.row false e [.bool] (kl.map brw), .row true 30 ock ((fOps (qOp g) kl.length).map orow), .row true 30 ock ((fOps (fl g P S) (2 * kl.length)).map orow)]) (k + 1), ?_, ?_⟩; focus (first | (simp only []; omega) | omega))
                      repeat ((conv => whnf); (first | refine Cnd.yes ?_ | refine Cnd.no ?_ | refine And.intro rfl ?_ | refine And.intro (by omega) ?_ | (refine And.intro ?_ ?_; focus (simp only [IntKind.wrap_i64, IntKind.wrap_u64, IntKind.wrap_u32]; omega)) | (refine And.intro ?_ ?_; focus (simp only [zl1, zl2, zl3, zl4, zl5, zl6, zl7, zl8, zl9] <;> omega))))
                      conv => whnf
                      exact ⟨k + 1, ⟨by omega, hkn⟩, rfl, rfl, (tmkK_eq _ _ _ _).mpr rfl, rfl⟩
              · repeat ((conv => whnf); (first | refine Cnd.yes ?_ | refine Cnd.no ?_ | refine And.intro rfl ?_ | refine And.intro (by omega) ?_ | (refine And.intro ?_ ?_; focus (simp only [IntKind.wrap_i64, IntKind.wrap_u64, IntKind.wrap_u32]; omega)) | (refine And.intro ?_ ?_; focus (simp only [zl1, zl2, zl3, zl4, zl5, zl6, zl7, zl8, zl9] <;> omega)) | (refine Cnd.tt ?_ ?_; focus (first | (apply decide_eq_true; omega) | (simp only [zq1, zq2, zq3, zq4, zq5, zq6, zq7, zq8, zq9, zq10, zq11, zq12] <;> omega) | rfl)) | (refine Cnd.ff ?_ ?_; focus (first | (apply decide_eq_false; omega) | (simp only [zq1, zq2, zq3, zq4, zq5, zq6, zq7, zq8, zq9, zq10, zq11, zq12] <;> omega) | rfl))))
                conv => whnf
                (refine ⟨(fun s : Nat => kl.length - s) ((i + 1)), [0, 1, 2], tmk 105 0 ((fun s : Nat => [(0, .slc 0 1 0 kl.length), (1, .v (.int .i64 P)), (2, .v (.int .i64 S)), (8, .slc 1 13 0 kl.length), (9, .slc 2 13 0 (2 * kl.length)), (12, .v (.int .i64 s))]) ((i + 1))), (fun s : Nat => [Ent.row false e [.bool] (kl.map brw), .row true 30 ock ((fOps (qOp g) kl.length).map orow), .row true 30 ock ((fOps (fl g P S) (2 * kl.length)).map orow)]) ((i + 1)), ?_, ?_⟩; focus (first | (simp only []; omega) | omega))
                repeat ((conv => whnf); (first | refine Cnd.yes ?_ | refine Cnd.no ?_ | refine And.intro rfl ?_ | refine And.intro (by omega) ?_ | (refine And.intro ?_ ?_; focus (simp only [IntKind.wrap_i64, IntKind.wrap_u64, IntKind.wrap_u32]; omega)) | (refine And.intro ?_ ?_; focus (simp only [zl1, zl2, zl3, zl4, zl5, zl6, zl7, zl8, zl9] <;> omega))))
                conv => whnf
                exact ⟨i + 1, hin, rfl, rfl, (tmkK_eq _ _ _ _).mpr rfl, rfl⟩
          · repeat ((conv => whnf); (first | refine Cnd.yes ?_ | refine Cnd.no ?_ | refine And.intro rfl ?_ | refine And.intro (by omega) ?_ | (refine And.intro ?_ ?_; focus (simp only [IntKind.wrap_i64, IntKind.wrap_u64, IntKind.wrap_u32]; omega)) | (refine And.intro ?_ ?_; focus (simp only [zl1, zl2, zl3, zl4, zl5, zl6, zl7, zl8, zl9] <;> omega)) | (refine Cnd.tt ?_ ?_; focus (first | (apply decide_eq_true; omega) | (simp only [zq1, zq2, zq3, zq4, zq5, zq6, zq7, zq8, zq9, zq10, zq11, zq12] <;> omega) | rfl)) | (refine Cnd.ff ?_ ?_; focus (first | (apply decide_eq_false; omega) | (simp only [zq1, zq2, zq3, zq4, zq5, zq6, zq7, zq8, zq9, zq10, zq11, zq12] <;> omega) | rfl))))
            conv => whnf
            exact hK _ _
end Go.Proofs.Ytkfkoldaeplckaa
