/-
  The document's net: its Class, link, Room; messages and flights compared: walked; their contracts.
-/
import Derived.Test.YthomcgclkbmnkaaDoorCi
namespace Go.Proofs.YthomcgclkbmnkaaDoor
open Go Go.Vc
set_option maxRecDepth 100000
set_option linter.unusedSimpArgs false
set_option linter.unusedVariables false
set_option maxHeartbeats 4000000
theorem classN_lo {k : Int} (h : 1 ≤ k) (h2 : k ≤ 3) : classN k = 0 := by unfold classN; rw [if_pos (by omega)]
theorem classN_mid {k : Int} (h : 4 ≤ k) (h2 : k ≤ 9) : classN k = 1 := by unfold classN; rw [if_neg (by omega), if_pos (by omega)]
theorem classN_hi {k : Int} (h : 10 ≤ k) (h2 : k ≤ 12) : classN k = 2 := by unfold classN; rw [if_neg (by omega), if_neg (by omega), if_pos (by omega)]
theorem classN_out {k : Int} (h : k < 1 ∨ 12 < k) : classN k = -1 := by unfold classN; rw [if_neg (by omega), if_neg (by omega), if_neg (by omega)]
theorem dclass_run (M : HL) (K : SV → List Ent → HL → Prop) (hp : List Ent) (k : Int) (hK : K (.v (.int .i64 (classN k))) hp M) : runF G0 pf25 [.v (.int .i64 k)] hp M K := by
  by_cases h1 : k < 1
  · rw [classN_out (.inl h1)] at hK
    repeat ((conv => whnf); (first | refine Cnd.yes ?_ | refine Cnd.no ?_ | refine And.intro rfl ?_ | refine And.intro (by omega) ?_ | (refine And.intro ?_ ?_; focus (simp only [IntKind.wrap_i64, IntKind.wrap_u64, IntKind.wrap_u32]; omega)) | (refine And.intro ?_ ?_; focus (simp only [zl1, zl2, zl3, zl4, zl5, zl6, zl7, zl8, zl9] <;> omega)) | refine Alt.std ?_ | (refine Cnd.tt ?_ ?_; focus (first | (apply decide_eq_true; omega) | (simp only [zq1, zq2, zq3, zq4, zq5, zq6, zq7, zq8, zq9, zq10, zq11, zq12] <;> omega) | rfl)) | (refine Cnd.ff ?_ ?_; focus (first | (apply decide_eq_false; omega) | (simp only [zq1, zq2, zq3, zq4, zq5, zq6, zq7, zq8, zq9, zq10, zq11, zq12] <;> omega) | rfl))))
    conv => whnf
    exact hK
  · by_cases h2 : k ≤ 3
    · rw [classN_lo (by omega) h2] at hK
      repeat ((conv => whnf); (first | refine Cnd.yes ?_ | refine Cnd.no ?_ | refine And.intro rfl ?_ | refine And.intro (by omega) ?_ | (refine And.intro ?_ ?_; focus (simp only [IntKind.wrap_i64, IntKind.wrap_u64, IntKind.wrap_u32]; omega)) | (refine And.intro ?_ ?_; focus (simp only [zl1, zl2, zl3, zl4, zl5, zl6, zl7, zl8, zl9] <;> omega)) | refine Alt.std ?_ | (refine Cnd.tt ?_ ?_; focus (first | (apply decide_eq_true; omega) | (simp only [zq1, zq2, zq3, zq4, zq5, zq6, zq7, zq8, zq9, zq10, zq11, zq12] <;> omega) | rfl)) | (refine Cnd.ff ?_ ?_; focus (first | (apply decide_eq_false; omega) | (simp only [zq1, zq2, zq3, zq4, zq5, zq6, zq7, zq8, zq9, zq10, zq11, zq12] <;> omega) | rfl))))
      conv => whnf
      exact hK
    · by_cases h3 : k ≤ 9
      · rw [classN_mid (by omega) h3] at hK
        repeat ((conv => whnf); (first | refine Cnd.yes ?_ | refine Cnd.no ?_ | refine And.intro rfl ?_ | refine And.intro (by omega) ?_ | (refine And.intro ?_ ?_; focus (simp only [IntKind.wrap_i64, IntKind.wrap_u64, IntKind.wrap_u32]; omega)) | (refine And.intro ?_ ?_; focus (simp only [zl1, zl2, zl3, zl4, zl5, zl6, zl7, zl8, zl9] <;> omega)) | refine Alt.std ?_ | (refine Cnd.tt ?_ ?_; focus (first | (apply decide_eq_true; omega) | (simp only [zq1, zq2, zq3, zq4, zq5, zq6, zq7, zq8, zq9, zq10, zq11, zq12] <;> omega) | rfl)) | (refine Cnd.ff ?_ ?_; focus (first | (apply decide_eq_false; omega) | (simp only [zq1, zq2, zq3, zq4, zq5, zq6, zq7, zq8, zq9, zq10, zq11, zq12] <;> omega) | rfl))))
        conv => whnf
        exact hK
      · by_cases h4 : k ≤ 12
        · rw [classN_hi (by omega) h4] at hK
          repeat ((conv => whnf); (first | refine Cnd.yes ?_ | refine Cnd.no ?_ | refine And.intro rfl ?_ | refine And.intro (by omega) ?_ | (refine And.intro ?_ ?_; focus (simp only [IntKind.wrap_i64, IntKind.wrap_u64, IntKind.wrap_u32]; omega)) | (refine And.intro ?_ ?_; focus (simp only [zl1, zl2, zl3, zl4, zl5, zl6, zl7, zl8, zl9] <;> omega)) | refine Alt.std ?_ | (refine Cnd.tt ?_ ?_; focus (first | (apply decide_eq_true; omega) | (simp only [zq1, zq2, zq3, zq4, zq5, zq6, zq7, zq8, zq9, zq10, zq11, zq12] <;> omega) | rfl)) | (refine Cnd.ff ?_ ?_; focus (first | (apply decide_eq_false; omega) | (simp only [zq1, zq2, zq3, zq4, zq5, zq6, zq7, zq8, zq9, zq10, zq11, zq12] <;> omega) | rfl))))
          conv => whnf
          exact hK
        · rw [classN_out (.inr (by omega))] at hK
          repeat ((conv => whnf); (first | refine Cnd.yes ?_ | refine Cnd.no ?_ | refine And.intro rfl ?_ | refine And.intro (by omega) ?_ | (refine And.intro ?_ ?_; focus (simp only [IntKind.wrap_i64, IntKind.wrap_u64, IntKind.wrap_u32]; omega)) | (refine And.intro ?_ ?_; focus (simp only [zl1, zl2, zl3, zl4, zl5, zl6, zl7, zl8, zl9] <;> omega)) | refine Alt.std ?_ | (refine Cnd.tt ?_ ?_; focus (first | (apply decide_eq_true; omega) | (simp only [zq1, zq2, zq3, zq4, zq5, zq6, zq7, zq8, zq9, zq10, zq11, zq12] <;> omega) | rfl)) | (refine Cnd.ff ?_ ?_; focus (first | (apply decide_eq_false; omega) | (simp only [zq1, zq2, zq3, zq4, zq5, zq6, zq7, zq8, zq9, zq10, zq11, zq12] <;> omega) | rfl))))
          conv => whnf
          exact hK
def dclassS : Vc.Spec := fun args hp _ K => ∃ k : Int, args = [.v (.int .i64 k)] ∧ K (.v (.int .i64 (classN k))) hp
theorem dclass_ok : SOK Tryd.prog 25 dclassS := by
  refine TOK.weaken (runF_eq G0_ok mixed at25.1 at25.2 pf25_eq) fun args hp M K h => ?_
  obtain ⟨k, rfl, h⟩ := h
  exact dclass_run M K hp k h
def docHp (o : Bool) (h r nx : Int) (fl : List Fl) : List Ent := [cellsB o 60 [.v (.int .i64 h), .v (.int .i64 r), .v (.int .i64 nx), .slc 1 12 0 fl.length], .row o 64 fck (fl.map frow)]
theorem dlink_runT (M : HL) (K : SV → List Ent → HL → Prop) (h r nx : Int) (fl : List Fl) (fr to cl : Int) (hK : K (.v (.bool (linkB h fr to cl))) (docHp true h r nx fl) M) :
    runF G0 pf37 [.ptr 0 0 0 0, .v (.int .i64 fr), .v (.int .i64 to), .v (.int .i64 cl)] (docHp true h r nx fl) M K := by
  rcases (show fr = -1 ∨ (fr < 0 ∧ fr ≠ -1) ∨ (0 ≤ fr ∧ fr < h) ∨ (0 ≤ fr ∧ ¬ fr < h) by omega) with h1 | ⟨h1, h1'⟩ | ⟨h1, h1'⟩ | ⟨h1, h1'⟩
  all_goals
    rcases (show to = -1 ∨ (to < 0 ∧ to ≠ -1) ∨ (0 ≤ to ∧ to < h) ∨ (0 ≤ to ∧ ¬ to < h) by omega) with h2 | ⟨h2, h2'⟩ | ⟨h2, h2'⟩ | ⟨h2, h2'⟩
    all_goals
      rcases (show cl = 0 ∨ cl = 1 ∨ cl = 2 ∨ (cl ≠ 0 ∧ cl ≠ 1 ∧ cl ≠ 2) by omega) with h3 | h3 | h3 | ⟨h3, h3', h3''⟩
      all_goals
        repeat ((conv => whnf); (first | refine Cnd.yes ?_ | refine Cnd.no ?_ | refine And.intro rfl ?_ | refine And.intro (by omega) ?_ | (refine And.intro ?_ ?_; focus (simp only [IntKind.wrap_i64, IntKind.wrap_u64, IntKind.wrap_u32]; omega)) | (refine And.intro ?_ ?_; focus (simp only [zl1, zl2, zl3, zl4, zl5, zl6, zl7, zl8, zl9] <;> omega)) | refine Alt.std ?_ | (refine Cnd.tt ?_ ?_; focus (first | (apply decide_eq_true; omega) | (simp only [zq1, zq2, zq3, zq4, zq5, zq6, zq7, zq8, zq9, zq10, zq11, zq12] <;> omega) | rfl)) | (refine Cnd.ff ?_ ?_; focus (first | (apply decide_eq_false; omega) | (simp only [zq1, zq2, zq3, zq4, zq5, zq6, zq7, zq8, zq9, zq10, zq11, zq12] <;> omega) | rfl))))
        conv => whnf
        refine Eq.mp (congrArg (fun b => K (SV.v (Value.bool b)) (docHp true h r nx fl) M) ?_) hK
        unfold linkB
        rw [Bool.eq_iff_iff]
        simp only [decide_eq_true_eq, Bool.false_eq_true, beq_iff_eq, iff_true, iff_false]
        omega
theorem dlink_runF (M : HL) (K : SV → List Ent → HL → Prop) (h r nx : Int) (fl : List Fl) (fr to cl : Int) (hK : K (.v (.bool (linkB h fr to cl))) (docHp false h r nx fl) M) :
    runF G0 pf37 [.ptr 0 0 0 0, .v (.int .i64 fr), .v (.int .i64 to), .v (.int .i64 cl)] (docHp false h r nx fl) M K := by
  rcases (show fr = -1 ∨ (fr < 0 ∧ fr ≠ -1) ∨ (0 ≤ fr ∧ fr < h) ∨ (0 ≤ fr ∧ ¬ fr < h) by omega) with h1 | ⟨h1, h1'⟩ | ⟨h1, h1'⟩ | ⟨h1, h1'⟩
  all_goals
    rcases (show to = -1 ∨ (to < 0 ∧ to ≠ -1) ∨ (0 ≤ to ∧ to < h) ∨ (0 ≤ to ∧ ¬ to < h) by omega) with h2 | ⟨h2, h2'⟩ | ⟨h2, h2'⟩ | ⟨h2, h2'⟩
    all_goals
      rcases (show cl = 0 ∨ cl = 1 ∨ cl = 2 ∨ (cl ≠ 0 ∧ cl ≠ 1 ∧ cl ≠ 2) by omega) with h3 | h3 | h3 | ⟨h3, h3', h3''⟩
      all_goals
        repeat ((conv => whnf); (first | refine Cnd.yes ?_ | refine Cnd.no ?_ | refine And.intro rfl ?_ | refine And.intro (by omega) ?_ | (refine And.intro ?_ ?_; focus (simp only [IntKind.wrap_i64, IntKind.wrap_u64, IntKind.wrap_u32]; omega)) | (refine And.intro ?_ ?_; focus (simp only [zl1, zl2, zl3, zl4, zl5, zl6, zl7, zl8, zl9] <;> omega)) | refine Alt.std ?_ | (refine Cnd.tt ?_ ?_; focus (first | (apply decide_eq_true; omega) | (simp only [zq1, zq2, zq3, zq4, zq5, zq6, zq7, zq8, zq9, zq10, zq11, zq12] <;> omega) | rfl)) | (refine Cnd.ff ?_ ?_; focus (first | (apply decide_eq_false; omega) | (simp only [zq1, zq2, zq3, zq4, zq5, zq6, zq7, zq8, zq9, zq10, zq11, zq12] <;> omega) | rfl))))
        conv => whnf
        refine Eq.mp (congrArg (fun b => K (SV.v (Value.bool b)) (docHp false h r nx fl) M) ?_) hK
        unfold linkB
        rw [Bool.eq_iff_iff]
        simp only [decide_eq_true_eq, Bool.false_eq_true, beq_iff_eq, iff_true, iff_false]
        omega
def dlinkS : Vc.Spec := fun args hp _ K => ∃ (o : Bool) (h r nx : Int) (fl : List Fl) (fr to cl : Int), args = [.ptr 0 0 0 0, .v (.int .i64 fr), .v (.int .i64 to), .v (.int .i64 cl)] ∧ hp = docHp o h r nx fl ∧ K (.v (.bool (linkB h fr to cl))) (docHp o h r nx fl)
theorem dlink_ok : SOK Tryd.prog 37 dlinkS := by
  refine TOK.weaken (runF_eq G0_ok mixed at37.1 at37.2 pf37_eq) fun args hp M K h => ?_
  obtain ⟨o, h', r, nx, fl, fr, to, cl, rfl, rfl, h1⟩ := h
  cases o with
  | true => exact dlink_runT M K h' r nx fl fr to cl h1
  | false => exact dlink_runF M K h' r nx fl fr to cl h1
end Go.Proofs.YthomcgclkbmnkaaDoor
