/-
  The document's TLB: Flush, walked; its contract; Puts that are refused.
-/
import Derived.Test.YtdmcdlgcmeledaaDoorCm
import Derived.Test.YtdmcdlgcmeledaaDoorCd
namespace Go.Proofs.YtdmcdlgcmeledaaDoor
open Go Go.Vc
set_option maxRecDepth 100000
set_option linter.unusedSimpArgs false
set_option linter.unusedVariables false
theorem filter_step (w : List Int) (l : List One) {i : Nat} (hi : i < l.length) : (l.take (i + 1)).filter (keep w) = (l.take i).filter (keep w) ++ (if keep w (l.getD i default) then [l.getD i default] else []) := by
  rw [List.take_succ_eq_append_getElem hi, List.filter_append]
  simp only [List.getD, List.getElem?_eq_getElem hi, Option.getD_some]
  cases h : keep w l[i] <;> simp [h]
theorem any_step (w : List Int) (p : Int) {k : Nat} (hk : k < w.length) : decide (p ∈ w.take (k + 1)) = (decide (p ∈ w.take k) || (w.getD k 0 == p)) := by
  rw [List.take_succ_eq_append_getElem hk]
  have e : w.getD k 0 = w[k] := by simp [List.getD, hk]
  rw [e]
  by_cases h1 : p ∈ w.take k
  · rw [decide_eq_true (List.mem_append.2 (.inl h1)), decide_eq_true h1]; rfl
  · rw [decide_eq_false h1, Bool.false_or]
    by_cases h2 : w[k] = p
    · rw [decide_eq_true (by rw [h2]; simp)]; simp [h2]
    · rw [decide_eq_false (by rw [List.mem_append]; rintro (h | h); exact h1 h; simp at h; exact h2 h.symm)]; simp [h2]
set_option maxHeartbeats 1000000 in
theorem rflush_run (M : HL) (K : SV → List Ent → HL → Prop) (n : Int) (l : List One) (w : List Int) (o : Bool) (e : TypeId) (hl : l.length ≤ 100) (hw : w.length ≤ 1000000)
    (hK : K (.tup []) [.cells 34 [.v (.int .i64 n), .slc 3 2 0 (l.filter (keep w)).length], .gone, .row o e [.int .u32] (w.map urow), .row true 50 ock ((l.filter (keep w)).map orow)] M) :
    runF G8 pf11 [.ptr 0 0 0 0, .slc 2 1 0 w.length] (rHp true n l ++ [.row o e [.int .u32] (w.map urow)]) M fun v hp2 M2 => ∃ m v' hp', Wk (llen (rHp true n l ++ [.row o e [.int .u32] (w.map urow)])) m [v] hp2 [v'] hp' (K v' hp' M2) := by
  repeat ((conv => whnf); (first | refine Cnd.yes ?_ | refine Cnd.no ?_ | refine And.intro rfl ?_ | refine And.intro (by omega) ?_ | (refine And.intro ?_ ?_; focus (simp only [IntKind.wrap_i64, IntKind.wrap_u64, IntKind.wrap_u32]; omega)) | (refine And.intro ?_ ?_; focus (simp only [zl1, zl2, zl3, zl4, zl5, zl6, zl7, zl8] <;> omega)) | (refine Cnd.tt ?_ ?_; focus (first | (apply decide_eq_true; omega) | (simp only [zq1, zq2, zq3, zq4, zq5, zq6, zq7, zq8, zq9, zq10, zq11, zq12] <;> omega) | rfl)) | (refine Cnd.ff ?_ ?_; focus (first | (apply decide_eq_false; omega) | (simp only [zq1, zq2, zq3, zq4, zq5, zq6, zq7, zq8, zq9, zq10, zq11, zq12] <;> omega) | rfl))))
  conv => whnf
  refine ⟨InvS 60 (fun s : Nat => l.length - s) (fun s : Nat => s ≤ l.length ∧ (w.length = 0 → s = 0)) (fun s : Nat => [(0, .ptr 0 0 0 0), (1, .slc 2 1 0 w.length), (4, .slc 3 2 0 ((l.take s).filter (keep w)).length), (5, .v (.int .i64 s))]) (fun s : Nat => rHp true n l ++ [.row o e [.int .u32] (w.map urow), .row true 50 ock (((l.take s).filter (keep w)).map orow)]) M, ⟨(fun s : Nat => l.length - s) 0, [0, 1, 2, 9], tmk 60 0 ((fun s : Nat => [(0, .ptr 0 0 0 0), (1, .slc 2 1 0 w.length), (4, .slc 3 2 0 ((l.take s).filter (keep w)).length), (5, .v (.int .i64 s))]) 0), (fun s : Nat => rHp true n l ++ [.row o e [.int .u32] (w.map urow), .row true 50 ock (((l.take s).filter (keep w)).map orow)]) 0, ?_⟩, ?_⟩
  · repeat ((conv => whnf); (first | refine Cnd.yes ?_ | refine Cnd.no ?_ | refine And.intro rfl ?_ | refine And.intro (by omega) ?_ | (refine And.intro ?_ ?_; focus (simp only [IntKind.wrap_i64, IntKind.wrap_u64, IntKind.wrap_u32]; omega)) | (refine And.intro ?_ ?_; focus (simp only [zl1, zl2, zl3, zl4, zl5, zl6, zl7, zl8] <;> omega))))
    conv => whnf
    exact ⟨0, ⟨by omega, fun _ => rfl⟩, rfl, rfl, (tmkK_eq _ _ _ _).mpr rfl, rfl⟩
  · rintro cnt tm hp M1 ⟨i, hC_, rfl, rfl, htm, hhp_⟩
    replace hC_ : i ≤ l.length ∧ (w.length = 0 → i = 0) := hC_
    obtain ⟨hi, hz⟩ := hC_
    replace htm : tmkK 60 0 [(0, .ptr 0 0 0 0), (1, .slc 2 1 0 w.length), (4, .slc 3 2 0 ((l.take i).filter (keep w)).length), (5, .v (.int .i64 i))] (fun l => tm = l) := htm
    conv at htm => whnf
    subst htm
    replace hhp_ : hp = rHp true n l ++ [.row o e [.int .u32] (w.map urow), .row true 50 ock (((l.take i).filter (keep w)).map orow)] := hhp_
    subst hhp_
    repeat ((conv => whnf); (first | refine Cnd.yes ?_ | refine Cnd.no ?_ | refine And.intro rfl ?_ | refine And.intro (by omega) ?_ | (refine And.intro ?_ ?_; focus (simp only [IntKind.wrap_i64, IntKind.wrap_u64, IntKind.wrap_u32]; omega)) | (refine And.intro ?_ ?_; focus (simp only [zl1, zl2, zl3, zl4, zl5, zl6, zl7, zl8] <;> omega)) | (refine Cnd.tt ?_ ?_; focus (first | (apply decide_eq_true; omega) | (simp only [zq1, zq2, zq3, zq4, zq5, zq6, zq7, zq8, zq9, zq10, zq11, zq12] <;> omega) | rfl)) | (refine Cnd.ff ?_ ?_; focus (first | (apply decide_eq_false; omega) | (simp only [zq1, zq2, zq3, zq4, zq5, zq6, zq7, zq8, zq9, zq10, zq11, zq12] <;> omega) | rfl))))
    conv => whnf
    refine Cnd.mk (fun hlt => ?_) fun hge => ?_
    · have hin : i < l.length := by have := of_decide_eq_true hlt; omega
      repeat ((conv => whnf); (first | refine Cnd.yes ?_ | refine Cnd.no ?_ | refine And.intro rfl ?_ | refine And.intro (by omega) ?_ | (refine And.intro ?_ ?_; focus (simp only [IntKind.wrap_i64, IntKind.wrap_u64, IntKind.wrap_u32]; omega)) | (refine And.intro ?_ ?_; focus (simp only [zl1, zl2, zl3, zl4, zl5, zl6, zl7, zl8] <;> omega)) | (refine Cnd.tt ?_ ?_; focus (first | (apply decide_eq_true; omega) | (simp only [zq1, zq2, zq3, zq4, zq5, zq6, zq7, zq8, zq9, zq10, zq11, zq12] <;> omega) | rfl)) | (refine Cnd.ff ?_ ?_; focus (first | (apply decide_eq_false; omega) | (simp only [zq1, zq2, zq3, zq4, zq5, zq6, zq7, zq8, zq9, zq10, zq11, zq12] <;> omega) | rfl))))
      conv => whnf
      refine Cnd.mk (fun hlt => ?_) fun hge => ?_
      · have hwp : 0 < w.length := by have := of_decide_eq_true hlt; omega
        repeat ((conv => whnf); (first | refine Cnd.yes ?_ | refine Cnd.no ?_ | refine And.intro rfl ?_ | refine And.intro (by omega) ?_ | (refine And.intro ?_ ?_; focus (simp only [IntKind.wrap_i64, IntKind.wrap_u64, IntKind.wrap_u32]; omega)) | (refine And.intro ?_ ?_; focus (simp only [zl1, zl2, zl3, zl4, zl5, zl6, zl7, zl8] <;> omega)) | (refine Cnd.tt ?_ ?_; focus (first | (apply decide_eq_true; omega) | (simp only [zq1, zq2, zq3, zq4, zq5, zq6, zq7, zq8, zq9, zq10, zq11, zq12] <;> omega) | rfl)) | (refine Cnd.ff ?_ ?_; focus (first | (apply decide_eq_false; omega) | (simp only [zq1, zq2, zq3, zq4, zq5, zq6, zq7, zq8, zq9, zq10, zq11, zq12] <;> omega) | rfl))))
        conv => whnf
        refine ⟨InvS 60 (fun s : Nat => w.length - s) (fun s : Nat => s ≤ w.length) (fun s : Nat => [(0, .ptr 0 0 0 0), (1, .slc 2 1 0 w.length), (4, .slc 3 2 0 ((l.take i).filter (keep w)).length), (5, .v (.int .i64 i)), (6, .v (.bool (decide ((l.getD i default).p ∈ w.take s)))), (7, .v (.int .i64 s))]) (fun s : Nat => rHp true n l ++ [.row o e [.int .u32] (w.map urow), .row true 50 ock (((l.take i).filter (keep w)).map orow)]) M1, ⟨(fun s : Nat => w.length - s) 0, [0, 1, 2, 3], tmk 60 0 ((fun s : Nat => [(0, .ptr 0 0 0 0), (1, .slc 2 1 0 w.length), (4, .slc 3 2 0 ((l.take i).filter (keep w)).length), (5, .v (.int .i64 i)), (6, .v (.bool (decide ((l.getD i default).p ∈ w.take s)))), (7, .v (.int .i64 s))]) 0), (fun s : Nat => rHp true n l ++ [.row o e [.int .u32] (w.map urow), .row true 50 ock (((l.take i).filter (keep w)).map orow)]) 0, ?_⟩, ?_⟩
        · repeat ((conv => whnf); (first | refine Cnd.yes ?_ | refine Cnd.no ?_ | refine And.intro rfl ?_ | refine And.intro (by omega) ?_ | (refine And.intro ?_ ?_; focus (simp only [IntKind.wrap_i64, IntKind.wrap_u64, IntKind.wrap_u32]; omega)) | (refine And.intro ?_ ?_; focus (simp only [zl1, zl2, zl3, zl4, zl5, zl6, zl7, zl8] <;> omega))))
          conv => whnf
          exact ⟨0, by omega, rfl, rfl, (tmkK_eq _ _ _ _).mpr rfl, rfl⟩
        · rintro cnt tm hp M1 ⟨k, hC_, rfl, rfl, htm, hhp_⟩
          replace hC_ : k ≤ w.length := hC_
          have hk := hC_
          replace htm : tmkK 60 0 [(0, .ptr 0 0 0 0), (1, .slc 2 1 0 w.length), (4, .slc 3 2 0 ((l.take i).filter (keep w)).length), (5, .v (.int .i64 i)), (6, .v (.bool (decide ((l.getD i default).p ∈ w.take k)))), (7, .v (.int .i64 k))] (fun l => tm = l) := htm
          conv at htm => whnf
          subst htm
          replace hhp_ : hp = rHp true n l ++ [.row o e [.int .u32] (w.map urow), .row true 50 ock (((l.take i).filter (keep w)).map orow)] := hhp_
          subst hhp_
          have hc := fun k => cell_map orow l default hin k
          have e0 : toI (cellAt (l.map orow) (0 + (i : Int).toNat) (0 + 0)) = (l.getD i default).p := by rw [hc]; rfl
          repeat ((conv => whnf); (first | refine Cnd.yes ?_ | refine Cnd.no ?_ | refine And.intro rfl ?_ | refine And.intro (by omega) ?_ | (refine And.intro ?_ ?_; focus (simp only [IntKind.wrap_i64, IntKind.wrap_u64, IntKind.wrap_u32]; omega)) | (refine And.intro ?_ ?_; focus (simp only [zl1, zl2, zl3, zl4, zl5, zl6, zl7, zl8] <;> omega)) | (refine Cnd.tt ?_ ?_; focus (first | (apply decide_eq_true; omega) | (simp only [zq1, zq2, zq3, zq4, zq5, zq6, zq7, zq8, zq9, zq10, zq11, zq12] <;> omega) | rfl)) | (refine Cnd.ff ?_ ?_; focus (first | (apply decide_eq_false; omega) | (simp only [zq1, zq2, zq3, zq4, zq5, zq6, zq7, zq8, zq9, zq10, zq11, zq12] <;> omega) | rfl))))
          conv => whnf
          refine Cnd.mk (fun hlt => ?_) fun hge => ?_
          · have hkn : k < w.length := by have := of_decide_eq_true hlt; omega
            have hs := any_step w (l.getD i default).p hkn
            have e1 := toI_u hkn
            cases hb : decide ((l.getD i default).p ∈ w.take k) with
            | true =>
              rw [hb, Bool.true_or] at hs
              repeat ((conv => whnf); (first | refine Cnd.yes ?_ | refine Cnd.no ?_ | refine And.intro rfl ?_ | refine And.intro (by omega) ?_ | (refine And.intro ?_ ?_; focus (simp only [IntKind.wrap_i64, IntKind.wrap_u64, IntKind.wrap_u32]; omega)) | (refine And.intro ?_ ?_; focus (simp only [zl1, zl2, zl3, zl4, zl5, zl6, zl7, zl8] <;> omega)) | (refine Cnd.tt ?_ ?_; focus (first | (apply decide_eq_true; omega) | (simp only [zq1, zq2, zq3, zq4, zq5, zq6, zq7, zq8, zq9, zq10, zq11, zq12] <;> omega) | rfl)) | (refine Cnd.ff ?_ ?_; focus (first | (apply decide_eq_false; omega) | (simp only [zq1, zq2, zq3, zq4, zq5, zq6, zq7, zq8, zq9, zq10, zq11, zq12] <;> omega) | rfl))))
              conv => whnf
              (refine ⟨(fun s : Nat => w.length - s) (k + 1), [0, 1, 2, 3], tmk 60 0 ((fun s : Nat => [(0, .ptr 0 0 0 0), (1, .slc 2 1 0 w.length), (4, .slc 3 2 0 ((l.take i).filter (keep w)).length), (5, .v (.int .i64 i)), (6, .v (.bool (decide ((l.getD i default).p ∈ w.take s)))), (7, .v (.int .i64 s))]) (k + 1)), (fun s : Nat => rHp true n l ++ [.row o e [.int .u32] (w.map urow), .row true 50 ock (((l.take i).filter (keep w)).map orow)]) (k + 1), ?_, ?_⟩; focus (first | (simp only []; omega) | omega))
              repeat ((conv => whnf); (first | refine Cnd.yes ?_ | refine Cnd.no ?_ | refine And.intro rfl ?_ | refine And.intro (by omega) ?_ | (refine And.intro ?_ ?_; focus (simp only [IntKind.wrap_i64, IntKind.wrap_u64, IntKind.wrap_u32]; omega)) | (refine And.intro ?_ ?_; focus (simp only [zl1, zl2, zl3, zl4, zl5, zl6, zl7, zl8] <;> omega))))
              conv => whnf
              refine ⟨by rw [hs], ?_⟩
              repeat ((conv => whnf); (first | refine Cnd.yes ?_ | refine Cnd.no ?_ | refine And.intro rfl ?_ | refine And.intro (by omega) ?_ | (refine And.intro ?_ ?_; focus (simp only [IntKind.wrap_i64, IntKind.wrap_u64, IntKind.wrap_u32]; omega)) | (refine And.intro ?_ ?_; focus (simp only [zl1, zl2, zl3, zl4, zl5, zl6, zl7, zl8] <;> omega))))
              conv => whnf
              exact ⟨k + 1, hkn, rfl, rfl, (tmkK_eq _ _ _ _).mpr rfl, rfl⟩
            | false =>
              rw [hb, Bool.false_or] at hs
              repeat ((conv => whnf); (first | refine Cnd.yes ?_ | refine Cnd.no ?_ | refine And.intro rfl ?_ | refine And.intro (by omega) ?_ | (refine And.intro ?_ ?_; focus (simp only [IntKind.wrap_i64, IntKind.wrap_u64, IntKind.wrap_u32]; omega)) | (refine And.intro ?_ ?_; focus (simp only [zl1, zl2, zl3, zl4, zl5, zl6, zl7, zl8] <;> omega)) | (refine Cnd.tt ?_ ?_; focus (first | (apply decide_eq_true; omega) | (simp only [zq1, zq2, zq3, zq4, zq5, zq6, zq7, zq8, zq9, zq10, zq11, zq12] <;> omega) | rfl)) | (refine Cnd.ff ?_ ?_; focus (first | (apply decide_eq_false; omega) | (simp only [zq1, zq2, zq3, zq4, zq5, zq6, zq7, zq8, zq9, zq10, zq11, zq12] <;> omega) | rfl))))
              conv => whnf
              rw [e0, e1, ← hs]
              (refine ⟨(fun s : Nat => w.length - s) (k + 1), [0, 1, 2, 3], tmk 60 0 ((fun s : Nat => [(0, .ptr 0 0 0 0), (1, .slc 2 1 0 w.length), (4, .slc 3 2 0 ((l.take i).filter (keep w)).length), (5, .v (.int .i64 i)), (6, .v (.bool (decide ((l.getD i default).p ∈ w.take s)))), (7, .v (.int .i64 s))]) (k + 1)), (fun s : Nat => rHp true n l ++ [.row o e [.int .u32] (w.map urow), .row true 50 ock (((l.take i).filter (keep w)).map orow)]) (k + 1), ?_, ?_⟩; focus (first | (simp only []; omega) | omega))
              repeat ((conv => whnf); (first | refine Cnd.yes ?_ | refine Cnd.no ?_ | refine And.intro rfl ?_ | refine And.intro (by omega) ?_ | (refine And.intro ?_ ?_; focus (simp only [IntKind.wrap_i64, IntKind.wrap_u64, IntKind.wrap_u32]; omega)) | (refine And.intro ?_ ?_; focus (simp only [zl1, zl2, zl3, zl4, zl5, zl6, zl7, zl8] <;> omega))))
              conv => whnf
              exact ⟨k + 1, hkn, rfl, rfl, (tmkK_eq _ _ _ _).mpr rfl, rfl⟩
          · have hkn : k = w.length := by have := of_decide_eq_false hge; omega
            subst hkn
            have hst := filter_step w l hin
            rw [List.take_of_length_le (Nat.le_refl _)]
            have hkp : keep w (l.getD i default) = !decide ((l.getD i default).p ∈ w) := by
              unfold keep gone
              have : w ≠ [] := fun h => by rw [h] at hwp; simp at hwp
              simp [this]
            have hlk := List.length_filter_le (keep w) (l.take i)
            rw [List.length_take] at hlk
            have e1 : cellAt (l.map orow) (0 + (i : Int).toNat) 1 = (l.getD i default).y := by rw [hc]; rfl
            have e2 : toI (cellAt (l.map orow) (0 + (i : Int).toNat) 0) = (l.getD i default).p := by rw [hc]; rfl
            cases hb : decide ((l.getD i default).p ∈ w) with
            | true =>
              rw [hkp, hb] at hst
              simp only [Bool.not_true, Bool.false_eq_true, if_false, List.append_nil] at hst
              repeat ((conv => whnf); (first | refine Cnd.yes ?_ | refine Cnd.no ?_ | refine And.intro rfl ?_ | refine And.intro (by omega) ?_ | (refine And.intro ?_ ?_; focus (simp only [IntKind.wrap_i64, IntKind.wrap_u64, IntKind.wrap_u32]; omega)) | (refine And.intro ?_ ?_; focus (simp only [zl1, zl2, zl3, zl4, zl5, zl6, zl7, zl8] <;> omega)) | (refine Cnd.tt ?_ ?_; focus (first | (apply decide_eq_true; omega) | (simp only [zq1, zq2, zq3, zq4, zq5, zq6, zq7, zq8, zq9, zq10, zq11, zq12] <;> omega) | rfl)) | (refine Cnd.ff ?_ ?_; focus (first | (apply decide_eq_false; omega) | (simp only [zq1, zq2, zq3, zq4, zq5, zq6, zq7, zq8, zq9, zq10, zq11, zq12] <;> omega) | rfl))))
              conv => whnf
              (refine ⟨(fun s : Nat => l.length - s) (i + 1), [0, 1, 2, 3], tmk 60 0 ((fun s : Nat => [(0, .ptr 0 0 0 0), (1, .slc 2 1 0 w.length), (4, .slc 3 2 0 ((l.take s).filter (keep w)).length), (5, .v (.int .i64 s))]) (i + 1)), (fun s : Nat => rHp true n l ++ [.row o e [.int .u32] (w.map urow), .row true 50 ock (((l.take s).filter (keep w)).map orow)]) (i + 1), ?_, ?_⟩; focus (first | (simp only []; omega) | omega))
              repeat ((conv => whnf); (first | refine Cnd.yes ?_ | refine Cnd.no ?_ | refine And.intro rfl ?_ | refine And.intro (by omega) ?_ | (refine And.intro ?_ ?_; focus (simp only [IntKind.wrap_i64, IntKind.wrap_u64, IntKind.wrap_u32]; omega)) | (refine And.intro ?_ ?_; focus (simp only [zl1, zl2, zl3, zl4, zl5, zl6, zl7, zl8] <;> omega))))
              conv => whnf
              refine ⟨by rw [hst], ?_⟩
              repeat ((conv => whnf); (first | refine Cnd.yes ?_ | refine Cnd.no ?_ | refine And.intro rfl ?_ | refine And.intro (by omega) ?_ | (refine And.intro ?_ ?_; focus (simp only [IntKind.wrap_i64, IntKind.wrap_u64, IntKind.wrap_u32]; omega)) | (refine And.intro ?_ ?_; focus (simp only [zl1, zl2, zl3, zl4, zl5, zl6, zl7, zl8] <;> omega))))
              conv => whnf
              refine ⟨by rw [hst], ?_⟩
              repeat ((conv => whnf); (first | refine Cnd.yes ?_ | refine Cnd.no ?_ | refine And.intro rfl ?_ | refine And.intro (by omega) ?_ | (refine And.intro ?_ ?_; focus (simp only [IntKind.wrap_i64, IntKind.wrap_u64, IntKind.wrap_u32]; omega)) | (refine And.intro ?_ ?_; focus (simp only [zl1, zl2, zl3, zl4, zl5, zl6, zl7, zl8] <;> omega))))
              conv => whnf
              exact ⟨i + 1, ⟨hin, fun h => by omega⟩, rfl, rfl, (tmkK_eq _ _ _ _).mpr rfl, rfl⟩
            | false =>
              rw [hkp, hb] at hst
              simp only [Bool.not_false, if_true] at hst
              repeat ((conv => whnf); (first | refine Cnd.yes ?_ | refine Cnd.no ?_ | refine And.intro rfl ?_ | refine And.intro (by omega) ?_ | (refine And.intro ?_ ?_; focus (simp only [IntKind.wrap_i64, IntKind.wrap_u64, IntKind.wrap_u32]; omega)) | (refine And.intro ?_ ?_; focus (simp only [zl1, zl2, zl3, zl4, zl5, zl6, zl7, zl8] <;> omega)) | (refine Cnd.tt ?_ ?_; focus (first | (apply decide_eq_true; omega) | (simp only [zq1, zq2, zq3, zq4, zq5, zq6, zq7, zq8, zq9, zq10, zq11, zq12] <;> omega) | rfl)) | (refine Cnd.ff ?_ ?_; focus (first | (apply decide_eq_false; omega) | (simp only [zq1, zq2, zq3, zq4, zq5, zq6, zq7, zq8, zq9, zq10, zq11, zq12] <;> omega) | rfl))))
              conv => whnf
              rw [e1, e2]
              (refine ⟨(fun s : Nat => l.length - s) (i + 1), [0, 1, 2, 5], tmk 60 0 ((fun s : Nat => [(0, .ptr 0 0 0 0), (1, .slc 2 1 0 w.length), (4, .slc 3 2 0 ((l.take s).filter (keep w)).length), (5, .v (.int .i64 s))]) (i + 1)), (fun s : Nat => rHp true n l ++ [.row o e [.int .u32] (w.map urow), .row true 50 ock (((l.take s).filter (keep w)).map orow)]) (i + 1), ?_, ?_⟩; focus (first | (simp only []; omega) | omega))
              repeat ((conv => whnf); (first | refine Cnd.yes ?_ | refine Cnd.no ?_ | refine And.intro rfl ?_ | refine And.intro (by omega) ?_ | (refine And.intro ?_ ?_; focus (simp only [IntKind.wrap_i64, IntKind.wrap_u64, IntKind.wrap_u32]; omega)) | (refine And.intro ?_ ?_; focus (simp only [zl1, zl2, zl3, zl4, zl5, zl6, zl7, zl8] <;> omega))))
              conv => whnf
              refine ⟨by rw [hst]; simp, ?_⟩
              repeat ((conv => whnf); (first | refine Cnd.yes ?_ | refine Cnd.no ?_ | refine And.intro rfl ?_ | refine And.intro (by omega) ?_ | (refine And.intro ?_ ?_; focus (simp only [IntKind.wrap_i64, IntKind.wrap_u64, IntKind.wrap_u32]; omega)) | (refine And.intro ?_ ?_; focus (simp only [zl1, zl2, zl3, zl4, zl5, zl6, zl7, zl8] <;> omega))))
              conv => whnf
              refine ⟨by rw [hst, List.drop_zero, List.drop_zero, List.take_of_length_le (by simp)]; simp [orow], ?_⟩
              repeat ((conv => whnf); (first | refine Cnd.yes ?_ | refine Cnd.no ?_ | refine And.intro rfl ?_ | refine And.intro (by omega) ?_ | (refine And.intro ?_ ?_; focus (simp only [IntKind.wrap_i64, IntKind.wrap_u64, IntKind.wrap_u32]; omega)) | (refine And.intro ?_ ?_; focus (simp only [zl1, zl2, zl3, zl4, zl5, zl6, zl7, zl8] <;> omega))))
              conv => whnf
              exact ⟨i + 1, ⟨hin, fun h => by omega⟩, rfl, rfl, (tmkK_eq _ _ _ _).mpr rfl, rfl⟩
      · have hw0 : w.length = 0 := by have := of_decide_eq_false hge; omega
        have hi0 := hz hw0
        subst hi0
        have hwn := List.eq_nil_of_length_eq_zero hw0
        subst hwn
        have hfn : l.filter (keep []) = [] := by rw [List.filter_eq_nil_iff]; intro x _; simp [keep, gone]
        rw [hfn] at hK
        repeat ((conv => whnf); (first | refine Cnd.yes ?_ | refine Cnd.no ?_ | refine And.intro rfl ?_ | refine And.intro (by omega) ?_ | (refine And.intro ?_ ?_; focus (simp only [IntKind.wrap_i64, IntKind.wrap_u64, IntKind.wrap_u32]; omega)) | (refine And.intro ?_ ?_; focus (simp only [zl1, zl2, zl3, zl4, zl5, zl6, zl7, zl8] <;> omega)) | (refine Cnd.tt ?_ ?_; focus (first | (apply decide_eq_true; omega) | (simp only [zq1, zq2, zq3, zq4, zq5, zq6, zq7, zq8, zq9, zq10, zq11, zq12] <;> omega) | rfl)) | (refine Cnd.ff ?_ ?_; focus (first | (apply decide_eq_false; omega) | (simp only [zq1, zq2, zq3, zq4, zq5, zq6, zq7, zq8, zq9, zq10, zq11, zq12] <;> omega) | rfl))))
        conv => whnf
        refine ⟨[0, 1, 2, 3], .tup [], [.cells 34 [.v (.int .i64 n), .slc 3 2 0 0], .gone, .row o e [.int .u32] [], .row true 50 ock []], ?_⟩
        repeat ((conv => whnf); (first | refine Cnd.yes ?_ | refine Cnd.no ?_ | refine And.intro rfl ?_ | refine And.intro (by omega) ?_ | (refine And.intro ?_ ?_; focus (simp only [IntKind.wrap_i64, IntKind.wrap_u64, IntKind.wrap_u32]; omega)) | (refine And.intro ?_ ?_; focus (simp only [zl1, zl2, zl3, zl4, zl5, zl6, zl7, zl8] <;> omega))))
        conv => whnf
        exact hK
    · have hin : i = l.length := by have := of_decide_eq_false hge; omega
      subst hin
      rw [List.take_of_length_le (Nat.le_refl _)]
      repeat ((conv => whnf); (first | refine Cnd.yes ?_ | refine Cnd.no ?_ | refine And.intro rfl ?_ | refine And.intro (by omega) ?_ | (refine And.intro ?_ ?_; focus (simp only [IntKind.wrap_i64, IntKind.wrap_u64, IntKind.wrap_u32]; omega)) | (refine And.intro ?_ ?_; focus (simp only [zl1, zl2, zl3, zl4, zl5, zl6, zl7, zl8] <;> omega)) | (refine Cnd.tt ?_ ?_; focus (first | (apply decide_eq_true; omega) | (simp only [zq1, zq2, zq3, zq4, zq5, zq6, zq7, zq8, zq9, zq10, zq11, zq12] <;> omega) | rfl)) | (refine Cnd.ff ?_ ?_; focus (first | (apply decide_eq_false; omega) | (simp only [zq1, zq2, zq3, zq4, zq5, zq6, zq7, zq8, zq9, zq10, zq11, zq12] <;> omega) | rfl))))
      conv => whnf
      refine ⟨[0, 1, 2, 3], .tup [], [.cells 34 [.v (.int .i64 n), .slc 3 2 0 (l.filter (keep w)).length], .gone, .row o e [.int .u32] (w.map urow), .row true 50 ock ((l.filter (keep w)).map orow)], ?_⟩
      repeat ((conv => whnf); (first | refine Cnd.yes ?_ | refine Cnd.no ?_ | refine And.intro rfl ?_ | refine And.intro (by omega) ?_ | (refine And.intro ?_ ?_; focus (simp only [IntKind.wrap_i64, IntKind.wrap_u64, IntKind.wrap_u32]; omega)) | (refine And.intro ?_ ?_; focus (simp only [zl1, zl2, zl3, zl4, zl5, zl6, zl7, zl8] <;> omega))))
      conv => whnf
      exact hK
def rflushS : Vc.Spec := fun args hp M K => ∃ (n : Int) (l : List One) (w : List Int) (o : Bool) (e : TypeId), args = [.ptr 0 0 0 0, .slc 2 1 0 w.length] ∧ hp = rHp true n l ++ [.row o e [.int .u32] (w.map urow)] ∧ l.length ≤ 100 ∧ w.length ≤ 1000000 ∧
    K (.tup []) [.cells 34 [.v (.int .i64 n), .slc 3 2 0 (l.filter (keep w)).length], .gone, .row o e [.int .u32] (w.map urow), .row true 50 ock ((l.filter (keep w)).map orow)]
theorem rflush_ok : SOK Tryd.prog 11 rflushS := by
  refine TOK.weaken (TOK.out (runF_eq G8_ok mixed at11.1 at11.2 pf11_eq)) fun args hp M K h => ?_
  obtain ⟨n, l, w, o, e, rfl, rfl, h1, h2, h3⟩ := h
  exact rflush_run M K n l w o e h1 h2 h3
/-- What a Put refuses. -/
def Bad (p : Int) (k : Nat) : Prop := ¬ (0 ≤ p ∧ p ≤ 1048575 ∧ 1 ≤ k ∧ k ≤ 2)
theorem rputB_run (M : HL) (K : SV → List Ent → HL → Prop) (n : Int) (l : List One) (p : Int) (o : Bool) (e : TypeId) (c : List (List Value)) (hc : c.length ≤ 1000) (hp : 0 ≤ p) (hb : Bad p c.length)
    (hK : K (.v (.bool false)) (rHp true n l ++ [.row o e pck c]) M) :
    runF G8 pf9q [.ptr 0 0 0 0, .v (.int .u32 p), .slc 2 5 0 c.length] (rHp true n l ++ [.row o e pck c]) M K := by
  unfold Bad at hb
  by_cases h1 : 1048576 ≤ p
  · repeat ((conv => whnf); (first | refine Cnd.yes ?_ | refine Cnd.no ?_ | refine And.intro rfl ?_ | refine And.intro (by omega) ?_ | (refine And.intro ?_ ?_; focus (simp only [IntKind.wrap_i64, IntKind.wrap_u64, IntKind.wrap_u32]; omega)) | (refine And.intro ?_ ?_; focus (simp only [zl1, zl2, zl3, zl4, zl5, zl6, zl7, zl8] <;> omega)) | (refine Cnd.tt ?_ ?_; focus (first | (apply decide_eq_true; omega) | (simp only [zq1, zq2, zq3, zq4, zq5, zq6, zq7, zq8, zq9, zq10, zq11, zq12] <;> omega) | rfl)) | (refine Cnd.ff ?_ ?_; focus (first | (apply decide_eq_false; omega) | (simp only [zq1, zq2, zq3, zq4, zq5, zq6, zq7, zq8, zq9, zq10, zq11, zq12] <;> omega) | rfl))))
    conv => whnf
    exact hK
  · by_cases h2 : c.length < 1
    · repeat ((conv => whnf); (first | refine Cnd.yes ?_ | refine Cnd.no ?_ | refine And.intro rfl ?_ | refine And.intro (by omega) ?_ | (refine And.intro ?_ ?_; focus (simp only [IntKind.wrap_i64, IntKind.wrap_u64, IntKind.wrap_u32]; omega)) | (refine And.intro ?_ ?_; focus (simp only [zl1, zl2, zl3, zl4, zl5, zl6, zl7, zl8] <;> omega)) | (refine Cnd.tt ?_ ?_; focus (first | (apply decide_eq_true; omega) | (simp only [zq1, zq2, zq3, zq4, zq5, zq6, zq7, zq8, zq9, zq10, zq11, zq12] <;> omega) | rfl)) | (refine Cnd.ff ?_ ?_; focus (first | (apply decide_eq_false; omega) | (simp only [zq1, zq2, zq3, zq4, zq5, zq6, zq7, zq8, zq9, zq10, zq11, zq12] <;> omega) | rfl))))
      conv => whnf
      exact hK
    · repeat ((conv => whnf); (first | refine Cnd.yes ?_ | refine Cnd.no ?_ | refine And.intro rfl ?_ | refine And.intro (by omega) ?_ | (refine And.intro ?_ ?_; focus (simp only [IntKind.wrap_i64, IntKind.wrap_u64, IntKind.wrap_u32]; omega)) | (refine And.intro ?_ ?_; focus (simp only [zl1, zl2, zl3, zl4, zl5, zl6, zl7, zl8] <;> omega)) | (refine Cnd.tt ?_ ?_; focus (first | (apply decide_eq_true; omega) | (simp only [zq1, zq2, zq3, zq4, zq5, zq6, zq7, zq8, zq9, zq10, zq11, zq12] <;> omega) | rfl)) | (refine Cnd.ff ?_ ?_; focus (first | (apply decide_eq_false; omega) | (simp only [zq1, zq2, zq3, zq4, zq5, zq6, zq7, zq8, zq9, zq10, zq11, zq12] <;> omega) | rfl))))
      conv => whnf
      exact hK
def rputBS : Vc.Spec := fun args hp M K => ∃ (n : Int) (l : List One) (p : Int) (o : Bool) (e : TypeId) (c : List (List Value)), args = [.ptr 0 0 0 0, .v (.int .u32 p), .slc 2 5 0 c.length] ∧ hp = rHp true n l ++ [.row o e pck c] ∧ c.length ≤ 1000 ∧ 0 ≤ p ∧ Bad p c.length ∧ K (.v (.bool false)) (rHp true n l ++ [.row o e pck c])
theorem rputB_ok : SOK Tryd.prog 9 rputBS := by
  refine TOK.weaken (runF_eq G8_ok mixed at9.1 at9.2 pf9q_eq) fun args hp M K h => ?_
  obtain ⟨n, l, p, o, e, c, rfl, rfl, h1, h2, h3, h4⟩ := h
  exact rputB_run M K n l p o e c h1 h2 h3 h4
theorem putB_run (M : HL) (K : SV → List Ent → HL → Prop) (n : Int) (l : List One) (J : List (List Value)) (p : Int) (o : Bool) (e : TypeId) (c : List (List Value)) (hc : c.length ≤ 1000) (hp : 0 ≤ p) (hb : Bad p c.length)
    (hK : K (.v (.bool false)) (tHp true n l J ++ [.row o e pck c]) M) :
    runF G1 pf8 [.ptr 0 0 0 0, .v (.int .u32 p), .slc 2 5 0 c.length] (tHp true n l J ++ [.row o e pck c]) M K := by
  unfold Bad at hb
  by_cases h1 : 1048575 < p
  · repeat ((conv => whnf); (first | refine Cnd.yes ?_ | refine Cnd.no ?_ | refine And.intro rfl ?_ | refine And.intro (by omega) ?_ | (refine And.intro ?_ ?_; focus (simp only [IntKind.wrap_i64, IntKind.wrap_u64, IntKind.wrap_u32]; omega)) | (refine And.intro ?_ ?_; focus (simp only [zl1, zl2, zl3, zl4, zl5, zl6, zl7, zl8] <;> omega)) | (refine Cnd.tt ?_ ?_; focus (first | (apply decide_eq_true; omega) | (simp only [zq1, zq2, zq3, zq4, zq5, zq6, zq7, zq8, zq9, zq10, zq11, zq12] <;> omega) | rfl)) | (refine Cnd.ff ?_ ?_; focus (first | (apply decide_eq_false; omega) | (simp only [zq1, zq2, zq3, zq4, zq5, zq6, zq7, zq8, zq9, zq10, zq11, zq12] <;> omega) | rfl))))
    conv => whnf
    exact hK
  · by_cases h2 : c.length < 1
    · repeat ((conv => whnf); (first | refine Cnd.yes ?_ | refine Cnd.no ?_ | refine And.intro rfl ?_ | refine And.intro (by omega) ?_ | (refine And.intro ?_ ?_; focus (simp only [IntKind.wrap_i64, IntKind.wrap_u64, IntKind.wrap_u32]; omega)) | (refine And.intro ?_ ?_; focus (simp only [zl1, zl2, zl3, zl4, zl5, zl6, zl7, zl8] <;> omega)) | (refine Cnd.tt ?_ ?_; focus (first | (apply decide_eq_true; omega) | (simp only [zq1, zq2, zq3, zq4, zq5, zq6, zq7, zq8, zq9, zq10, zq11, zq12] <;> omega) | rfl)) | (refine Cnd.ff ?_ ?_; focus (first | (apply decide_eq_false; omega) | (simp only [zq1, zq2, zq3, zq4, zq5, zq6, zq7, zq8, zq9, zq10, zq11, zq12] <;> omega) | rfl))))
      conv => whnf
      exact hK
    · repeat ((conv => whnf); (first | refine Cnd.yes ?_ | refine Cnd.no ?_ | refine And.intro rfl ?_ | refine And.intro (by omega) ?_ | (refine And.intro ?_ ?_; focus (simp only [IntKind.wrap_i64, IntKind.wrap_u64, IntKind.wrap_u32]; omega)) | (refine And.intro ?_ ?_; focus (simp only [zl1, zl2, zl3, zl4, zl5, zl6, zl7, zl8] <;> omega)) | (refine Cnd.tt ?_ ?_; focus (first | (apply decide_eq_true; omega) | (simp only [zq1, zq2, zq3, zq4, zq5, zq6, zq7, zq8, zq9, zq10, zq11, zq12] <;> omega) | rfl)) | (refine Cnd.ff ?_ ?_; focus (first | (apply decide_eq_false; omega) | (simp only [zq1, zq2, zq3, zq4, zq5, zq6, zq7, zq8, zq9, zq10, zq11, zq12] <;> omega) | rfl))))
      conv => whnf
      exact hK
def putBS : Vc.Spec := fun args hp M K => ∃ (n : Int) (l : List One) (J : List (List Value)) (p : Int) (o : Bool) (e : TypeId) (c : List (List Value)), args = [.ptr 0 0 0 0, .v (.int .u32 p), .slc 2 5 0 c.length] ∧ hp = tHp true n l J ++ [.row o e pck c] ∧ c.length ≤ 1000 ∧ 0 ≤ p ∧ Bad p c.length ∧ K (.v (.bool false)) (tHp true n l J ++ [.row o e pck c])
theorem putB_ok : SOK Tryd.prog 8 putBS := by
  refine TOK.weaken (runF_eq G1_ok mixed at8.1 at8.2 pf8_eq) fun args hp M K h => ?_
  obtain ⟨n, l, J, p, o, e, c, rfl, rfl, h1, h2, h3, h4⟩ := h
  exact putB_run M K n l J p o e c h1 h2 h3 h4
end Go.Proofs.YtdmcdlgcmeledaaDoor
