/-
  The chapter's examples, walked; contracts together.
-/
import Derived.Test.YtjbknaniihkcnaaDoorCh
namespace Go.Proofs.YtjbknaniihkcnaaDoor
open Go Go.Vc
set_option maxRecDepth 100000
set_option linter.unusedSimpArgs false
set_option linter.unusedVariables false
set_option maxHeartbeats 4000000
noncomputable def specsE : Nat → Option Vc.Trans := tget [(6, frameT newS), (9, frameT addS), (10, frameT placeS), (11, frameT valueS), (13, frameT aheadS)]
noncomputable def GE : Nat → Option Vc.Trans := tabG specsE (tget tab) 5
theorem GE_ok : GOK Tryd.prog GE := tabG_ok (GOK.cons (frame_ok new_ok) (GOK.cons (frame_ok add_ok) (GOK.cons (frame_ok place_ok) (GOK.cons (frame_ok value_ok) (GOK.cons (frame_ok ahead_ok) .nil))))) tab_ok 5
theorem first_run (M : HL) (K : SV → List Ent → HL → Prop) (hK : K (.v (.bool true)) [] M) : runF GE pf5 [] [] M fun v hp2 M2 => ∃ m v' hp', Wk (llen ([] : List Ent)) m [v] hp2 [v'] hp' (K v' hp' M2) := by
  repeat ((conv => whnf); (first | refine Cnd.yes ?_ | refine Cnd.no ?_ | refine And.intro rfl ?_ | refine And.intro (by omega) ?_ | (refine And.intro ?_ ?_; focus (simp only [IntKind.wrap_i64, IntKind.wrap_u64, IntKind.wrap_u32]; omega)) | (refine And.intro ?_ ?_; focus (simp only [zl1, zl2, zl3, zl4, zl5, zl6, zl7, zl8, zl9] <;> omega)) | (refine Cnd.tt ?_ ?_; focus (first | (apply decide_eq_true; omega) | (simp only [zq1, zq2, zq3, zq4, zq5, zq6, zq7, zq8, zq9, zq10, zq11, zq12] <;> omega) | rfl)) | (refine Cnd.ff ?_ ?_; focus (first | (apply decide_eq_false; omega) | (simp only [zq1, zq2, zq3, zq4, zq5, zq6, zq7, zq8, zq9, zq10, zq11, zq12] <;> omega) | rfl))))
  conv => whnf
  refine ⟨4, rfl, rfl, by omega, by omega, ?_⟩
  repeat ((conv => whnf); (first | refine Cnd.yes ?_ | refine Cnd.no ?_ | refine And.intro rfl ?_ | refine And.intro (by omega) ?_ | (refine And.intro ?_ ?_; focus (simp only [IntKind.wrap_i64, IntKind.wrap_u64, IntKind.wrap_u32]; omega)) | (refine And.intro ?_ ?_; focus (simp only [zl1, zl2, zl3, zl4, zl5, zl6, zl7, zl8, zl9] <;> omega)) | (refine Cnd.tt ?_ ?_; focus (first | (apply decide_eq_true; omega) | (simp only [zq1, zq2, zq3, zq4, zq5, zq6, zq7, zq8, zq9, zq10, zq11, zq12] <;> omega) | rfl)) | (refine Cnd.ff ?_ ?_; focus (first | (apply decide_eq_false; omega) | (simp only [zq1, zq2, zq3, zq4, zq5, zq6, zq7, zq8, zq9, zq10, zq11, zq12] <;> omega) | rfl))))
  conv => whnf
  refine ⟨4, 1, true, [], [], rfl, rfl, by simp, by omega, by decide, ?_⟩
  repeat ((conv => whnf); (first | refine Cnd.yes ?_ | refine Cnd.no ?_ | refine And.intro rfl ?_ | refine And.intro (by omega) ?_ | (refine And.intro ?_ ?_; focus (simp only [IntKind.wrap_i64, IntKind.wrap_u64, IntKind.wrap_u32]; omega)) | (refine And.intro ?_ ?_; focus (simp only [zl1, zl2, zl3, zl4, zl5, zl6, zl7, zl8, zl9] <;> omega)) | (refine Cnd.tt ?_ ?_; focus (first | (apply decide_eq_true; omega) | (simp only [zq1, zq2, zq3, zq4, zq5, zq6, zq7, zq8, zq9, zq10, zq11, zq12] <;> omega) | rfl)) | (refine Cnd.ff ?_ ?_; focus (first | (apply decide_eq_false; omega) | (simp only [zq1, zq2, zq3, zq4, zq5, zq6, zq7, zq8, zq9, zq10, zq11, zq12] <;> omega) | rfl))))
  conv => whnf
  refine ⟨4, 2, false, [Q7.mk 1 true false false 0 0 0], [], rfl, rfl, by simp, by omega, by decide, ?_⟩
  repeat ((conv => whnf); (first | refine Cnd.yes ?_ | refine Cnd.no ?_ | refine And.intro rfl ?_ | refine And.intro (by omega) ?_ | (refine And.intro ?_ ?_; focus (simp only [IntKind.wrap_i64, IntKind.wrap_u64, IntKind.wrap_u32]; omega)) | (refine And.intro ?_ ?_; focus (simp only [zl1, zl2, zl3, zl4, zl5, zl6, zl7, zl8, zl9] <;> omega)) | (refine Cnd.tt ?_ ?_; focus (first | (apply decide_eq_true; omega) | (simp only [zq1, zq2, zq3, zq4, zq5, zq6, zq7, zq8, zq9, zq10, zq11, zq12] <;> omega) | rfl)) | (refine Cnd.ff ?_ ?_; focus (first | (apply decide_eq_false; omega) | (simp only [zq1, zq2, zq3, zq4, zq5, zq6, zq7, zq8, zq9, zq10, zq11, zq12] <;> omega) | rfl))))
  conv => whnf
  refine ⟨4, 1, 0, 4, [], Q7.mk 1 true false false 0 0 0, [qrow (Q7.mk 2 false false false 0 0 0)], 2, rfl, rfl, by simp, by simp, by omega, rfl, by simp, rfl, by omega, by omega, by omega, by decide, ?_⟩
  repeat ((conv => whnf); (first | refine Cnd.yes ?_ | refine Cnd.no ?_ | refine And.intro rfl ?_ | refine And.intro (by omega) ?_ | (refine And.intro ?_ ?_; focus (simp only [IntKind.wrap_i64, IntKind.wrap_u64, IntKind.wrap_u32]; omega)) | (refine And.intro ?_ ?_; focus (simp only [zl1, zl2, zl3, zl4, zl5, zl6, zl7, zl8, zl9] <;> omega)) | (refine Cnd.tt ?_ ?_; focus (first | (apply decide_eq_true; omega) | (simp only [zq1, zq2, zq3, zq4, zq5, zq6, zq7, zq8, zq9, zq10, zq11, zq12] <;> omega) | rfl)) | (refine Cnd.ff ?_ ?_; focus (first | (apply decide_eq_false; omega) | (simp only [zq1, zq2, zq3, zq4, zq5, zq6, zq7, zq8, zq9, zq10, zq11, zq12] <;> omega) | rfl))))
  conv => whnf
  refine ⟨4, 1, 67305985, [], Q7.mk 1 true true false 0 4 0, [qrow (Q7.mk 2 false false false 0 0 0)], 2, rfl, rfl, by simp, by simp, by omega, rfl, by simp, rfl, rfl, ?_⟩
  repeat ((conv => whnf); (first | refine Cnd.yes ?_ | refine Cnd.no ?_ | refine And.intro rfl ?_ | refine And.intro (by omega) ?_ | (refine And.intro ?_ ?_; focus (simp only [IntKind.wrap_i64, IntKind.wrap_u64, IntKind.wrap_u32]; omega)) | (refine And.intro ?_ ?_; focus (simp only [zl1, zl2, zl3, zl4, zl5, zl6, zl7, zl8, zl9] <;> omega)) | (refine Cnd.tt ?_ ?_; focus (first | (apply decide_eq_true; omega) | (simp only [zq1, zq2, zq3, zq4, zq5, zq6, zq7, zq8, zq9, zq10, zq11, zq12] <;> omega) | rfl)) | (refine Cnd.ff ?_ ?_; focus (first | (apply decide_eq_false; omega) | (simp only [zq1, zq2, zq3, zq4, zq5, zq6, zq7, zq8, zq9, zq10, zq11, zq12] <;> omega) | rfl))))
  conv => whnf
  refine ⟨4, 2, 1, 1, [Q7.mk 1 true true true 0 4 67305985], Q7.mk 2 false false false 0 0 0, [], 2, rfl, rfl, by simp, by simp, by omega, rfl, by simp, rfl, by omega, by omega, by omega, by decide, ?_⟩
  repeat ((conv => whnf); (first | refine Cnd.yes ?_ | refine Cnd.no ?_ | refine And.intro rfl ?_ | refine And.intro (by omega) ?_ | (refine And.intro ?_ ?_; focus (simp only [IntKind.wrap_i64, IntKind.wrap_u64, IntKind.wrap_u32]; omega)) | (refine And.intro ?_ ?_; focus (simp only [zl1, zl2, zl3, zl4, zl5, zl6, zl7, zl8, zl9] <;> omega)) | (refine Cnd.tt ?_ ?_; focus (first | (apply decide_eq_true; omega) | (simp only [zq1, zq2, zq3, zq4, zq5, zq6, zq7, zq8, zq9, zq10, zq11, zq12] <;> omega) | rfl)) | (refine Cnd.ff ?_ ?_; focus (first | (apply decide_eq_false; omega) | (simp only [zq1, zq2, zq3, zq4, zq5, zq6, zq7, zq8, zq9, zq10, zq11, zq12] <;> omega) | rfl))))
  conv => whnf
  refine ⟨4, 2, [Q7.mk 1 true true true 0 4 67305985], Q7.mk 2 false true false 1 1 0, [], 2, rfl, rfl, by simp, by simp, by omega, rfl, by simp, rfl, rfl, by simp [Fit7], by simp [Fit7], by simp, fun k v i h => ?_⟩
  obtain ⟨rfl, rfl, rfl⟩ : k = 1 ∧ v = 2 ∧ i = 1 := by
    have hh : hit (Q7.mk 1 true true true 0 4 67305985) (Q7.mk 2 false true false 1 1 0) := ⟨rfl, by decide, by decide⟩
    rcases h with ⟨_, _, _, h4⟩ | ⟨j, h1, h2, h3, h4, h5⟩
    · exact absurd hh (h4 0 (by simp))
    · obtain rfl : j = 0 := by simp at h1; omega
      rcases h5 with ⟨_, _, h6⟩ | ⟨h6, _, h7⟩
      · exact absurd ⟨by decide, by decide, rfl⟩ h6
      · exact ⟨h6, h7.trans (by decide), h4⟩
  repeat ((conv => whnf); (first | refine Cnd.yes ?_ | refine Cnd.no ?_ | refine And.intro rfl ?_ | refine And.intro (by omega) ?_ | (refine And.intro ?_ ?_; focus (simp only [IntKind.wrap_i64, IntKind.wrap_u64, IntKind.wrap_u32]; omega)) | (refine And.intro ?_ ?_; focus (simp only [zl1, zl2, zl3, zl4, zl5, zl6, zl7, zl8, zl9] <;> omega)) | (refine Cnd.tt ?_ ?_; focus (first | (apply decide_eq_true; omega) | (simp only [zq1, zq2, zq3, zq4, zq5, zq6, zq7, zq8, zq9, zq10, zq11, zq12] <;> omega) | rfl)) | (refine Cnd.ff ?_ ?_; focus (first | (apply decide_eq_false; omega) | (simp only [zq1, zq2, zq3, zq4, zq5, zq6, zq7, zq8, zq9, zq10, zq11, zq12] <;> omega) | rfl))))
  conv => whnf
  refine ⟨[], .v (.bool true), [], ?_⟩
  repeat ((conv => whnf); (first | refine Cnd.yes ?_ | refine Cnd.no ?_ | refine And.intro rfl ?_ | refine And.intro (by omega) ?_ | (refine And.intro ?_ ?_; focus (simp only [IntKind.wrap_i64, IntKind.wrap_u64, IntKind.wrap_u32]; omega)) | (refine And.intro ?_ ?_; focus (simp only [zl1, zl2, zl3, zl4, zl5, zl6, zl7, zl8, zl9] <;> omega))))
  conv => whnf
  exact hK
def firstS : Vc.Spec := fun args hp _ K => args = [] ∧ hp = [] ∧ K (.v (.bool true)) []
theorem first_ok : SOK Tryd.prog 5 firstS := by
  refine TOK.weaken (TOK.out (runF_eq GE_ok mixed at5.1 at5.2 pf5_eq)) fun args hp M K h => ?_
  obtain ⟨rfl, rfl, h⟩ := h
  exact first_run M K h
noncomputable def specsF : Nat → Option Vc.Trans := tget [(5, frameT firstS), (6, frameT newS), (7, frameT xnewS), (8, frameT numS), (9, frameT addS), (10, frameT placeS), (11, frameT valueS), (12, frameT xstoreS), (13, frameT aheadS), (14, frameT xloadS)]
noncomputable def GF : Nat → Option Vc.Trans := tabG specsF (tget tab) 5
theorem GF_ok : GOK Tryd.prog GF := tabG_ok (GOK.cons (frame_ok first_ok) (GOK.cons (frame_ok new_ok) (GOK.cons (frame_ok xnew_ok) (GOK.cons (frame_ok num_ok) (GOK.cons (frame_ok add_ok) (GOK.cons (frame_ok place_ok) (GOK.cons (frame_ok value_ok) (GOK.cons (frame_ok xstore_ok) (GOK.cons (frame_ok ahead_ok) (GOK.cons (frame_ok xload_ok) .nil)))))))))) tab_ok 5
end Go.Proofs.YtjbknaniihkcnaaDoor
