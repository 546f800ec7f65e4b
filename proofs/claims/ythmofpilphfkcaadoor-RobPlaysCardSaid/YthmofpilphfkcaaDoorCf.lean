/-
  Ids, walked; the buffer's contracts together.
-/
import Derived.Test.YthmofpilphfkcaaDoorCe
import Derived.Test.YthmofpilphfkcaaDoorCc
namespace Go.Proofs.YthmofpilphfkcaaDoor
open Go Go.Vc
set_option maxRecDepth 100000
set_option linter.unusedSimpArgs false
set_option linter.unusedVariables false
set_option maxHeartbeats 4000000
def idsN (L : List (Int × Bool)) (s : Nat) : List Int := (L.take s).map (·.1)
theorem idsN_len {L : List (Int × Bool)} {s : Nat} (h : s ≤ L.length) : (idsN L s).length = s := by simp [idsN]; omega
theorem idsN_next {L : List (Int × Bool)} {s : Nat} (h : s < L.length) : idsN L (s + 1) = idsN L s ++ [(L.getD s (0, false)).1] := by
  unfold idsN
  rw [← List.take_append_getElem h, List.map_append]
  simp [List.getD, h]
theorem ids_run (M : HL) (K : SV → List Ent → HL → Prop) (n nx : Int) (L post : List (Int × Bool)) (hl : L.length ≤ 1000)
    (hK : K (.slc 2 1 0 L.length) (robHp true n nx L post ++ [.row true 3 [.int .i64] ((idsN L L.length).map irow)]) M) :
    runF G0 pf14 [.ptr 0 0 0 0] (robHp true n nx L post) M fun v hp2 M2 => ∃ m v' hp', Wk (llen (robHp true n nx L post)) m [v] hp2 [v'] hp' (K v' hp' M2) := by
  repeat ((conv => whnf); (first | refine Cnd.yes ?_ | refine Cnd.no ?_ | refine And.intro rfl ?_ | refine And.intro (by omega) ?_ | (refine And.intro ?_ ?_; focus (simp only [IntKind.wrap_i64, IntKind.wrap_u64, IntKind.wrap_u32]; omega)) | (refine And.intro ?_ ?_; focus (simp only [zl1, zl2, zl3, zl4, zl5, zl6, zl7, zl8, zl9] <;> omega)) | (refine Cnd.tt ?_ ?_; focus (first | (apply decide_eq_true; omega) | (simp only [zq1, zq2, zq3, zq4, zq5, zq6, zq7, zq8, zq9, zq10, zq11, zq12] <;> omega) | rfl)) | (refine Cnd.ff ?_ ?_; focus (first | (apply decide_eq_false; omega) | (simp only [zq1, zq2, zq3, zq4, zq5, zq6, zq7, zq8, zq9, zq10, zq11, zq12] <;> omega) | rfl))))
  conv => whnf
  refine ⟨InvS 22 (fun s : Nat => L.length - s) (fun s : Nat => s ≤ L.length) (fun s : Nat => [(0, .ptr 0 0 0 0), (3, .slc 2 1 0 s), (9, .slc 1 2 0 L.length), (10, .v (.int .i64 L.length)), (11, .v (.int .i64 s))]) (fun s : Nat => [Ent.cells 56 [.v (.int .i64 n), .v (.int .i64 nx), .slc 1 2 0 L.length], .row true 58 [.int .i64, .bool] ((L ++ post).map orow), .row true 3 [.int .i64] ((idsN L s).map irow)]) M, ⟨(fun s : Nat => L.length - s) 0, [0, 1, 9], tmk 22 0 ((fun s : Nat => [(0, .ptr 0 0 0 0), (3, .slc 2 1 0 s), (9, .slc 1 2 0 L.length), (10, .v (.int .i64 L.length)), (11, .v (.int .i64 s))]) 0), (fun s : Nat => [Ent.cells 56 [.v (.int .i64 n), .v (.int .i64 nx), .slc 1 2 0 L.length], .row true 58 [.int .i64, .bool] ((L ++ post).map orow), .row true 3 [.int .i64] ((idsN L s).map irow)]) 0, ?_⟩, ?_⟩
  · repeat ((conv => whnf); (first | refine Cnd.yes ?_ | refine Cnd.no ?_ | refine And.intro rfl ?_ | refine And.intro (by omega) ?_ | (refine And.intro ?_ ?_; focus (simp only [IntKind.wrap_i64, IntKind.wrap_u64, IntKind.wrap_u32]; omega)) | (refine And.intro ?_ ?_; focus (simp only [zl1, zl2, zl3, zl4, zl5, zl6, zl7, zl8, zl9] <;> omega))))
    conv => whnf
    exact ⟨0, Nat.zero_le _, rfl, rfl, (tmkK_eq _ _ _ _).mpr rfl, rfl⟩
  · rintro cnt tm hp M1 ⟨i, hC_, rfl, rfl, htm, hhp_⟩
    replace hC_ : i ≤ L.length := hC_
    have hi := hC_
    replace htm : tmkK 22 0 [(0, .ptr 0 0 0 0), (3, .slc 2 1 0 i), (9, .slc 1 2 0 L.length), (10, .v (.int .i64 L.length)), (11, .v (.int .i64 i))] (fun l => tm = l) := htm
    conv at htm => whnf
    subst htm
    replace hhp_ : hp = [Ent.cells 56 [.v (.int .i64 n), .v (.int .i64 nx), .slc 1 2 0 L.length], .row true 58 [.int .i64, .bool] ((L ++ post).map orow), .row true 3 [.int .i64] ((idsN L i).map irow)] := hhp_
    subst hhp_
    repeat ((conv => whnf); (first | refine Cnd.yes ?_ | refine Cnd.no ?_ | refine And.intro rfl ?_ | refine And.intro (by omega) ?_ | (refine And.intro ?_ ?_; focus (simp only [IntKind.wrap_i64, IntKind.wrap_u64, IntKind.wrap_u32]; omega)) | (refine And.intro ?_ ?_; focus (simp only [zl1, zl2, zl3, zl4, zl5, zl6, zl7, zl8, zl9] <;> omega)) | (refine Cnd.tt ?_ ?_; focus (first | (apply decide_eq_true; omega) | (simp only [zq1, zq2, zq3, zq4, zq5, zq6, zq7, zq8, zq9, zq10, zq11, zq12] <;> omega) | rfl)) | (refine Cnd.ff ?_ ?_; focus (first | (apply decide_eq_false; omega) | (simp only [zq1, zq2, zq3, zq4, zq5, zq6, zq7, zq8, zq9, zq10, zq11, zq12] <;> omega) | rfl))))
    conv => whnf
    refine Cnd.mk (fun hlt => ?_) fun hge => ?_
    · have hin : i < L.length := by have := of_decide_eq_true hlt; omega
      have e0 := cellO (post := post) hin
      have l1 := idsN_len hi
      have n1 : List.take i (List.drop 0 ((idsN L i).map irow)) ++ List.take 1 (List.drop 0 [irow (L.getD i (0, false)).1]) = (idsN L (i + 1)).map irow := by
        rw [List.drop_zero, List.take_of_length_le (by rw [List.length_map, l1]; exact Nat.le_refl _), idsN_next hin, List.map_append]; rfl
      repeat ((conv => whnf); (first | refine Cnd.yes ?_ | refine Cnd.no ?_ | refine And.intro rfl ?_ | refine And.intro (by omega) ?_ | (refine And.intro ?_ ?_; focus (simp only [IntKind.wrap_i64, IntKind.wrap_u64, IntKind.wrap_u32]; omega)) | (refine And.intro ?_ ?_; focus (simp only [zl1, zl2, zl3, zl4, zl5, zl6, zl7, zl8, zl9] <;> omega)) | (refine Cnd.tt ?_ ?_; focus (first | (apply decide_eq_true; omega) | (simp only [zq1, zq2, zq3, zq4, zq5, zq6, zq7, zq8, zq9, zq10, zq11, zq12] <;> omega) | rfl)) | (refine Cnd.ff ?_ ?_; focus (first | (apply decide_eq_false; omega) | (simp only [zq1, zq2, zq3, zq4, zq5, zq6, zq7, zq8, zq9, zq10, zq11, zq12] <;> omega) | rfl))))
      conv => whnf
      rw [e0]
      repeat ((conv => whnf); (first | refine Cnd.yes ?_ | refine Cnd.no ?_ | refine And.intro rfl ?_ | refine And.intro (by omega) ?_ | (refine And.intro ?_ ?_; focus (simp only [IntKind.wrap_i64, IntKind.wrap_u64, IntKind.wrap_u32]; omega)) | (refine And.intro ?_ ?_; focus (simp only [zl1, zl2, zl3, zl4, zl5, zl6, zl7, zl8, zl9] <;> omega)) | (refine Cnd.tt ?_ ?_; focus (first | (apply decide_eq_true; omega) | (simp only [zq1, zq2, zq3, zq4, zq5, zq6, zq7, zq8, zq9, zq10, zq11, zq12] <;> omega) | rfl)) | (refine Cnd.ff ?_ ?_; focus (first | (apply decide_eq_false; omega) | (simp only [zq1, zq2, zq3, zq4, zq5, zq6, zq7, zq8, zq9, zq10, zq11, zq12] <;> omega) | rfl))))
      conv => whnf
      (refine ⟨(fun s : Nat => L.length - s) ((i + 1)), [0, 1, 5], tmk 22 0 ((fun s : Nat => [(0, .ptr 0 0 0 0), (3, .slc 2 1 0 s), (9, .slc 1 2 0 L.length), (10, .v (.int .i64 L.length)), (11, .v (.int .i64 s))]) ((i + 1))), (fun s : Nat => [Ent.cells 56 [.v (.int .i64 n), .v (.int .i64 nx), .slc 1 2 0 L.length], .row true 58 [.int .i64, .bool] ((L ++ post).map orow), .row true 3 [.int .i64] ((idsN L s).map irow)]) ((i + 1)), ?_, ?_⟩; focus (first | (simp only []; omega) | omega))
      repeat ((conv => whnf); (first | refine Cnd.yes ?_ | refine Cnd.no ?_ | refine And.intro rfl ?_ | refine And.intro (by omega) ?_ | (refine And.intro ?_ ?_; focus (simp only [IntKind.wrap_i64, IntKind.wrap_u64, IntKind.wrap_u32]; omega)) | (refine And.intro ?_ ?_; focus (simp only [zl1, zl2, zl3, zl4, zl5, zl6, zl7, zl8, zl9] <;> omega))))
      conv => whnf
      refine ⟨n1, ?_⟩
      repeat ((conv => whnf); (first | refine Cnd.yes ?_ | refine Cnd.no ?_ | refine And.intro rfl ?_ | refine And.intro (by omega) ?_ | (refine And.intro ?_ ?_; focus (simp only [IntKind.wrap_i64, IntKind.wrap_u64, IntKind.wrap_u32]; omega)) | (refine And.intro ?_ ?_; focus (simp only [zl1, zl2, zl3, zl4, zl5, zl6, zl7, zl8, zl9] <;> omega))))
      conv => whnf
      exact ⟨i + 1, hin, rfl, rfl, (tmkK_eq _ _ _ _).mpr rfl, rfl⟩
    · have hin : i = L.length := by have := of_decide_eq_false hge; omega
      subst hin
      repeat ((conv => whnf); (first | refine Cnd.yes ?_ | refine Cnd.no ?_ | refine And.intro rfl ?_ | refine And.intro (by omega) ?_ | (refine And.intro ?_ ?_; focus (simp only [IntKind.wrap_i64, IntKind.wrap_u64, IntKind.wrap_u32]; omega)) | (refine And.intro ?_ ?_; focus (simp only [zl1, zl2, zl3, zl4, zl5, zl6, zl7, zl8, zl9] <;> omega)) | (refine Cnd.tt ?_ ?_; focus (first | (apply decide_eq_true; omega) | (simp only [zq1, zq2, zq3, zq4, zq5, zq6, zq7, zq8, zq9, zq10, zq11, zq12] <;> omega) | rfl)) | (refine Cnd.ff ?_ ?_; focus (first | (apply decide_eq_false; omega) | (simp only [zq1, zq2, zq3, zq4, zq5, zq6, zq7, zq8, zq9, zq10, zq11, zq12] <;> omega) | rfl))))
      conv => whnf
      refine ⟨[0, 1, 2], .slc 2 1 0 L.length, (robHp true n nx L post ++ [.row true 3 [.int .i64] ((idsN L L.length).map irow)]), ?_⟩
      repeat ((conv => whnf); (first | refine Cnd.yes ?_ | refine Cnd.no ?_ | refine And.intro rfl ?_ | refine And.intro (by omega) ?_ | (refine And.intro ?_ ?_; focus (simp only [IntKind.wrap_i64, IntKind.wrap_u64, IntKind.wrap_u32]; omega)) | (refine And.intro ?_ ?_; focus (simp only [zl1, zl2, zl3, zl4, zl5, zl6, zl7, zl8, zl9] <;> omega))))
      conv => whnf
      exact hK
def idsS : Vc.Spec := fun args hp _ K => ∃ (n nx : Int) (L post : List (Int × Bool)), args = [.ptr 0 0 0 0] ∧ hp = robHp true n nx L post ∧ L.length ≤ 1000 ∧ K (.slc 2 1 0 L.length) (robHp true n nx L post ++ [.row true 3 [.int .i64] ((idsN L L.length).map irow)])
theorem ids_ok : SOK Tryd.prog 14 idsS := by
  refine TOK.weaken (TOK.out (runF_eq G0_ok mixed at14.1 at14.2 pf14_eq)) fun args hp M K h => ?_
  obtain ⟨n, nx, L, post, rfl, rfl, h1, h2⟩ := h
  exact ids_run M K n nx L post h1 h2
noncomputable def specsF : Nat → Option Vc.Trans := tget [(6, frameT firstS), (7, frameT numS), (8, frameT newS), (9, frameT pushS), (10, frameT doneS), (11, frameT popS), (13, frameT cutS), (14, frameT idsS)]
noncomputable def GF : Nat → Option Vc.Trans := tabG specsF (tget tab) 5
theorem GF_ok : GOK Tryd.prog GF := tabG_ok (GOK.cons (frame_ok first_ok) (GOK.cons (frame_ok num_ok) (GOK.cons (frame_ok new_ok) (GOK.cons (frame_ok push_ok) (GOK.cons (frame_ok done_ok) (GOK.cons (frame_ok pop_ok) (GOK.cons (frame_ok cut_ok) (GOK.cons (frame_ok ids_ok) .nil)))))))) tab_ok 5
end Go.Proofs.YthmofpilphfkcaaDoor
