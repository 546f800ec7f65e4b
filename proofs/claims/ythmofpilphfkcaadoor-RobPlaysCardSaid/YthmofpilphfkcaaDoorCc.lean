/-
  The chapter's examples, and RobOrder, walked.
-/
import Derived.Test.YthmofpilphfkcaaDoorCb
namespace Go.Proofs.YthmofpilphfkcaaDoor
open Go Go.Vc
set_option maxRecDepth 100000
set_option linter.unusedSimpArgs false
set_option linter.unusedVariables false
set_option maxHeartbeats 4000000 in
theorem first_run (M : HL) (K : SV → List Ent → HL → Prop) (hK : K (.v (.bool true)) [] M) : runF G1 pf6 [] [] M fun v hp2 M2 => ∃ m v' hp', Wk (llen ([] : List Ent)) m [v] hp2 [v'] hp' (K v' hp' M2) := by
  repeat ((conv => whnf); (first | refine Cnd.yes ?_ | refine Cnd.no ?_ | refine And.intro rfl ?_ | refine And.intro (by omega) ?_ | (refine And.intro ?_ ?_; focus (simp only [IntKind.wrap_i64, IntKind.wrap_u64, IntKind.wrap_u32]; omega)) | (refine And.intro ?_ ?_; focus (simp only [zl1, zl2, zl3, zl4, zl5, zl6, zl7, zl8, zl9] <;> omega))))
  conv => whnf
  refine .inl ⟨2, rfl, rfl, by omega, by omega, ?_⟩
  repeat ((conv => whnf); (first | refine Cnd.yes ?_ | refine Cnd.no ?_ | refine And.intro rfl ?_ | refine And.intro (by omega) ?_ | (refine And.intro ?_ ?_; focus (simp only [IntKind.wrap_i64, IntKind.wrap_u64, IntKind.wrap_u32]; omega)) | (refine And.intro ?_ ?_; focus (simp only [zl1, zl2, zl3, zl4, zl5, zl6, zl7, zl8, zl9] <;> omega))))
  conv => whnf
  refine ⟨2, 0, [], [], rfl, rfl, by simp, by omega, by omega, ?_⟩
  rw [if_pos (by decide)]
  repeat ((conv => whnf); (first | refine Cnd.yes ?_ | refine Cnd.no ?_ | refine And.intro rfl ?_ | refine And.intro (by omega) ?_ | (refine And.intro ?_ ?_; focus (simp only [IntKind.wrap_i64, IntKind.wrap_u64, IntKind.wrap_u32]; omega)) | (refine And.intro ?_ ?_; focus (simp only [zl1, zl2, zl3, zl4, zl5, zl6, zl7, zl8, zl9] <;> omega))))
  conv => whnf
  refine ⟨2, 1, [(0, false)], [], rfl, rfl, by simp, by omega, by omega, ?_⟩
  rw [if_pos (by decide)]
  repeat ((conv => whnf); (first | refine Cnd.yes ?_ | refine Cnd.no ?_ | refine And.intro rfl ?_ | refine And.intro (by omega) ?_ | (refine And.intro ?_ ?_; focus (simp only [IntKind.wrap_i64, IntKind.wrap_u64, IntKind.wrap_u32]; omega)) | (refine And.intro ?_ ?_; focus (simp only [zl1, zl2, zl3, zl4, zl5, zl6, zl7, zl8, zl9] <;> omega))))
  conv => whnf
  refine ⟨2, 2, [(0, false), (1, false)], [], rfl, rfl, by simp, by omega, by omega, ?_⟩
  rw [if_neg (by decide)]
  repeat ((conv => whnf); (first | refine Cnd.yes ?_ | refine Cnd.no ?_ | refine And.intro rfl ?_ | refine And.intro (by omega) ?_ | (refine And.intro ?_ ?_; focus (simp only [IntKind.wrap_i64, IntKind.wrap_u64, IntKind.wrap_u32]; omega)) | (refine And.intro ?_ ?_; focus (simp only [zl1, zl2, zl3, zl4, zl5, zl6, zl7, zl8, zl9] <;> omega))))
  conv => whnf
  refine ⟨2, 2, 3, true, [(0, false), (1, false)], [], [1], rfl, rfl, by simp, by simp, ?_⟩
  repeat ((conv => whnf); (first | refine Cnd.yes ?_ | refine Cnd.no ?_ | refine And.intro rfl ?_ | refine And.intro (by omega) ?_ | (refine And.intro ?_ ?_; focus (simp only [IntKind.wrap_i64, IntKind.wrap_u64, IntKind.wrap_u32]; omega)) | (refine And.intro ?_ ?_; focus (simp only [zl1, zl2, zl3, zl4, zl5, zl6, zl7, zl8, zl9] <;> omega))))
  conv => whnf
  refine .inl ⟨2, 2, [(0, false), (1, true)], [], rfl, rfl, by simp, ?_⟩
  repeat ((conv => whnf); (first | refine Cnd.yes ?_ | refine Cnd.no ?_ | refine And.intro rfl ?_ | refine And.intro (by omega) ?_ | (refine And.intro ?_ ?_; focus (simp only [IntKind.wrap_i64, IntKind.wrap_u64, IntKind.wrap_u32]; omega)) | (refine And.intro ?_ ?_; focus (simp only [zl1, zl2, zl3, zl4, zl5, zl6, zl7, zl8, zl9] <;> omega))))
  conv => whnf
  refine ⟨2, 2, 3, true, [(0, false), (1, true)], [], [0], rfl, rfl, by simp, by simp, ?_⟩
  repeat ((conv => whnf); (first | refine Cnd.yes ?_ | refine Cnd.no ?_ | refine And.intro rfl ?_ | refine And.intro (by omega) ?_ | (refine And.intro ?_ ?_; focus (simp only [IntKind.wrap_i64, IntKind.wrap_u64, IntKind.wrap_u32]; omega)) | (refine And.intro ?_ ?_; focus (simp only [zl1, zl2, zl3, zl4, zl5, zl6, zl7, zl8, zl9] <;> omega))))
  conv => whnf
  refine .inr ⟨2, 2, 0, [(1, true)], [], rfl, rfl, by simp, ?_⟩
  repeat ((conv => whnf); (first | refine Cnd.yes ?_ | refine Cnd.no ?_ | refine And.intro rfl ?_ | refine And.intro (by omega) ?_ | (refine And.intro ?_ ?_; focus (simp only [IntKind.wrap_i64, IntKind.wrap_u64, IntKind.wrap_u32]; omega)) | (refine And.intro ?_ ?_; focus (simp only [zl1, zl2, zl3, zl4, zl5, zl6, zl7, zl8, zl9] <;> omega))))
  conv => whnf
  refine .inr ⟨2, 2, 1, [], [], rfl, rfl, by simp, ?_⟩
  repeat ((conv => whnf); (first | refine Cnd.yes ?_ | refine Cnd.no ?_ | refine And.intro rfl ?_ | refine And.intro (by omega) ?_ | (refine And.intro ?_ ?_; focus (simp only [IntKind.wrap_i64, IntKind.wrap_u64, IntKind.wrap_u32]; omega)) | (refine And.intro ?_ ?_; focus (simp only [zl1, zl2, zl3, zl4, zl5, zl6, zl7, zl8, zl9] <;> omega))))
  conv => whnf
  refine ⟨[], .v (.bool true), [], ?_⟩
  repeat ((conv => whnf); (first | refine Cnd.yes ?_ | refine Cnd.no ?_ | refine And.intro rfl ?_ | refine And.intro (by omega) ?_ | (refine And.intro ?_ ?_; focus (simp only [IntKind.wrap_i64, IntKind.wrap_u64, IntKind.wrap_u32]; omega)) | (refine And.intro ?_ ?_; focus (simp only [zl1, zl2, zl3, zl4, zl5, zl6, zl7, zl8, zl9] <;> omega))))
  conv => whnf
  exact hK
def firstS : Vc.Spec := fun args hp _ K => args = [] ∧ hp = [] ∧ K (.v (.bool true)) []
theorem first_ok : SOK Tryd.prog 6 firstS := by
  refine TOK.weaken (TOK.out (runF_eq G1_ok mixed at6.1 at6.2 pf6_eq)) fun args hp M K h => ?_
  obtain ⟨rfl, rfl, h⟩ := h
  exact first_run M K h
noncomputable def specs2 : Nat → Option Vc.Trans := tget [(6, frameT firstS), (7, frameT numS), (8, frameT newS), (9, frameT pushS), (10, frameT doneS), (11, frameT popS)]
noncomputable def G2 : Nat → Option Vc.Trans := tabG specs2 (tget tab) 5
theorem G2_ok : GOK Tryd.prog G2 := tabG_ok (GOK.cons (frame_ok first_ok) (GOK.cons (frame_ok num_ok) (GOK.cons (frame_ok new_ok) (GOK.cons (frame_ok push_ok) (GOK.cons (frame_ok done_ok) (GOK.cons (frame_ok pop_ok) .nil)))))) tab_ok 5
/-- What is in the buffer: from 'next' on. -/
def tl (n next : Nat) (is : Nat → Bool) : List (Int × Bool) := (List.range (n - next)).map fun j => (((next + j : Nat) : Int), is (next + j))
theorem tl_len (n next : Nat) (is : Nat → Bool) : (tl n next is).length = n - next := by simp [tl]
theorem tl_cons {n next : Nat} (h : next < n) (is : Nat → Bool) : tl n next is = ((next : Int), is next) :: tl n (next + 1) is := by
  unfold tl
  obtain ⟨m, hm⟩ : ∃ m, n - next = m + 1 := ⟨n - next - 1, by omega⟩
  rw [hm, show n - (next + 1) = m by omega, List.range_succ_eq_map, List.map_cons, List.map_map]
  simp only [Nat.add_zero]
  congr 1
  refine List.map_congr_left fun j _ => ?_
  simp only [Function.comp, Nat.succ_eq_add_one]
  rw [show next + (j + 1) = next + 1 + j by omega]
theorem tl_nil {n next : Nat} (h : n ≤ next) (is : Nat → Bool) : tl n next is = [] := by
  unfold tl
  rw [show n - next = 0 by omega]
  rfl
def setB (is : Nat → Bool) (k j : Nat) : Bool := if j = k then true else is j
theorem tl_mark (n next k : Nat) (is : Nat → Bool) : (tl n next is).map (markE k) = tl n next (setB is k) := by
  unfold tl
  rw [List.map_map]
  refine List.map_congr_left fun j _ => ?_
  simp only [Function.comp, markE, setB]
  by_cases h : next + j = k
  · rw [if_pos (by omega), if_pos h]
  · rw [if_neg (by omega), if_neg h]
def brow (is : Nat → Bool) (j : Nat) : List Value := [.bool (is j)]
theorem brow_zero (i : Nat) : tblOf (brow fun _ => false) i = List.replicate i [Value.bool false] := by
  have h : (brow fun _ => false) = fun _ => [Value.bool false] := rfl
  rw [h, tblOf, List.map_const', List.length_range]
theorem brow_set (is : Nat → Bool) {k n : Nat} (h : k < n) : (tblOf (brow is) n).set (0 + (k : Int).toNat) (over ((tblOf (brow is) n).getD (0 + (k : Int).toNat) []) 0 [.bool true]) = tblOf (brow (setB is k)) n := by
  rw [Nat.zero_add, Int.toNat_natCast, tblOf_get _ h, tblOf_set _ h]
  refine tblOf_congr fun j _ => ?_
  simp only [brow, setB]
  by_cases hj : j = k
  · rw [if_pos hj, if_pos hj]; rfl
  · rw [if_neg hj, if_neg hj]
theorem brow_get (is : Nat → Bool) {k n : Nat} (h : k < n) : toB (cellAt (tblOf (brow is) n) (0 + (k : Int).toNat) 0) = is k := by
  rw [Nat.zero_add, Int.toNat_natCast, tblOf_cell _ h]
  rfl
def oHp (e : TypeId) (n next : Nat) (is : Nat → Bool) (ds : List Int) : List Ent := [.row false e [.int .i64] (ds.map irow), .cells 56 [.v (.int .i64 n), .v (.int .i64 n), .slc 2 2 0 (n - next)], .row true 58 [.int .i64, .bool] ((tl n next is).map orow), .row true 4 [.bool] (tblOf (brow is) n)]
def pHp (e : TypeId) (n i : Nat) (ds : List Int) : List Ent := [.row false e [.int .i64] (ds.map irow), .cells 56 [.v (.int .i64 n), .v (.int .i64 i), .slc 2 2 0 i], .row true 58 [.int .i64, .bool] ((tl i 0 fun _ => false).map orow)]
set_option maxHeartbeats 4000000 in
theorem order_run (M : HL) (K : SV → List Ent → HL → Prop) (e : TypeId) (x : Int) (ds : List Int) (hK : ∀ hp, K (.v (.bool true)) hp M) :
    runF G2 pf3 [.v (.int .i64 x), .slc 0 1 0 ds.length] [.row false e [.int .i64] (ds.map irow)] M K := by
  repeat ((conv => whnf); (first | refine Cnd.yes ?_ | refine Cnd.no ?_ | refine And.intro rfl ?_ | refine And.intro (by omega) ?_ | (refine And.intro ?_ ?_; focus (simp only [IntKind.wrap_i64, IntKind.wrap_u64, IntKind.wrap_u32]; omega)) | (refine And.intro ?_ ?_; focus (simp only [zl1, zl2, zl3, zl4, zl5, zl6, zl7, zl8, zl9] <;> omega))))
  conv => whnf
  refine ⟨x, 40, rfl, by omega, by omega, ?_⟩
  repeat ((conv => whnf); (first | refine Cnd.yes ?_ | refine Cnd.no ?_ | refine And.intro rfl ?_ | refine And.intro (by omega) ?_ | (refine And.intro ?_ ?_; focus (simp only [IntKind.wrap_i64, IntKind.wrap_u64, IntKind.wrap_u32]; omega)) | (refine And.intro ?_ ?_; focus (simp only [zl1, zl2, zl3, zl4, zl5, zl6, zl7, zl8, zl9] <;> omega))))
  conv => whnf
  obtain ⟨n, hn⟩ : ∃ n : Nat, IntKind.i64.wrap (x % 40 + 1) = n := ⟨(x % 40 + 1).toNat, by rw [IntKind.wrap_i64]; omega⟩
  have hn2 : 1 ≤ n ∧ n ≤ 40 := by rw [IntKind.wrap_i64] at hn; omega
  rw [hn]
  refine Cnd.mk (fun hbig => ?_) fun hsmall => ?_
  · repeat ((conv => whnf); (first | refine Cnd.yes ?_ | refine Cnd.no ?_ | refine And.intro rfl ?_ | refine And.intro (by omega) ?_ | (refine And.intro ?_ ?_; focus (simp only [IntKind.wrap_i64, IntKind.wrap_u64, IntKind.wrap_u32]; omega)) | (refine And.intro ?_ ?_; focus (simp only [zl1, zl2, zl3, zl4, zl5, zl6, zl7, zl8, zl9] <;> omega))))
    conv => whnf
    exact hK _
  have hsm : ds.length ≤ 60 := by have := of_decide_eq_false hsmall; omega
  repeat ((conv => whnf); (first | refine Cnd.yes ?_ | refine Cnd.no ?_ | refine And.intro rfl ?_ | refine And.intro (by omega) ?_ | (refine And.intro ?_ ?_; focus (simp only [IntKind.wrap_i64, IntKind.wrap_u64, IntKind.wrap_u32]; omega)) | (refine And.intro ?_ ?_; focus (simp only [zl1, zl2, zl3, zl4, zl5, zl6, zl7, zl8, zl9] <;> omega))))
  conv => whnf
  refine .inl ⟨n, rfl, rfl, by omega, by omega, ?_⟩
  repeat ((conv => whnf); (first | refine Cnd.yes ?_ | refine Cnd.no ?_ | refine And.intro rfl ?_ | refine And.intro (by omega) ?_ | (refine And.intro ?_ ?_; focus (simp only [IntKind.wrap_i64, IntKind.wrap_u64, IntKind.wrap_u32]; omega)) | (refine And.intro ?_ ?_; focus (simp only [zl1, zl2, zl3, zl4, zl5, zl6, zl7, zl8, zl9] <;> omega))))
  conv => whnf
  refine ⟨fun cnt tm hp M' => ∃ i : Nat, i ≤ n ∧ cnt = n - i ∧ M' = M ∧ tmkK 109 0 [(0, .v (.int .i64 n)), (1, .slc 0 1 0 ds.length), (6, .ptr 1 0 0 0), (8, .v (.int .i64 i))] (fun l => tm = l) ∧ hp = pHp e n i ds,
    ⟨n, [0, 1, 2], tmk 109 0 [(0, .v (.int .i64 n)), (1, .slc 0 1 0 ds.length), (6, .ptr 1 0 0 0), (8, .v (.int .i64 (0 : Nat)))], pHp e n 0 ds, ?_⟩, ?_⟩
  · repeat ((conv => whnf); (first | refine Cnd.yes ?_ | refine Cnd.no ?_ | refine And.intro rfl ?_ | refine And.intro (by omega) ?_ | (refine And.intro ?_ ?_; focus (simp only [IntKind.wrap_i64, IntKind.wrap_u64, IntKind.wrap_u32]; omega)) | (refine And.intro ?_ ?_; focus (simp only [zl1, zl2, zl3, zl4, zl5, zl6, zl7, zl8, zl9] <;> omega))))
    conv => whnf
    exact ⟨0, by omega, by omega, rfl, (tmkK_eq _ _ _ _).mpr rfl, rfl⟩
  · rintro cnt tm hp M' ⟨i, hi, rfl, rfl, htm, rfl⟩
    conv at htm => whnf
    subst htm
    repeat ((conv => whnf); (first | refine Cnd.yes ?_ | refine Cnd.no ?_ | refine And.intro rfl ?_ | refine And.intro (by omega) ?_ | (refine And.intro ?_ ?_; focus (simp only [IntKind.wrap_i64, IntKind.wrap_u64, IntKind.wrap_u32]; omega)) | (refine And.intro ?_ ?_; focus (simp only [zl1, zl2, zl3, zl4, zl5, zl6, zl7, zl8, zl9] <;> omega))))
    conv => whnf
    refine Cnd.mk (fun hlt => ?_) fun hge => ?_
    · have hin : i < n := by have := of_decide_eq_true hlt; omega
      have htl := tl_len i 0 fun _ => false
      repeat ((conv => whnf); (first | refine Cnd.yes ?_ | refine Cnd.no ?_ | refine And.intro rfl ?_ | refine And.intro (by omega) ?_ | (refine And.intro ?_ ?_; focus (simp only [IntKind.wrap_i64, IntKind.wrap_u64, IntKind.wrap_u32]; omega)) | (refine And.intro ?_ ?_; focus (simp only [zl1, zl2, zl3, zl4, zl5, zl6, zl7, zl8, zl9] <;> omega))))
      conv => whnf
      refine ⟨n, i, tl i 0 fun _ => false, [], by rfl, by rw [robHp, htl, List.append_nil]; rfl, by omega, by omega, by omega, ?_⟩
      rw [if_pos (by omega), htl, Nat.sub_zero]
      repeat ((conv => whnf); (first | refine Cnd.yes ?_ | refine Cnd.no ?_ | refine And.intro rfl ?_ | refine And.intro (by omega) ?_ | (refine And.intro ?_ ?_; focus (simp only [IntKind.wrap_i64, IntKind.wrap_u64, IntKind.wrap_u32]; omega)) | (refine And.intro ?_ ?_; focus (simp only [zl1, zl2, zl3, zl4, zl5, zl6, zl7, zl8, zl9] <;> omega))))
      conv => whnf
      refine Cnd.ff (by simp) ?_
      repeat ((conv => whnf); (first | refine Cnd.yes ?_ | refine Cnd.no ?_ | refine And.intro rfl ?_ | refine And.intro (by omega) ?_ | (refine And.intro ?_ ?_; focus (simp only [IntKind.wrap_i64, IntKind.wrap_u64, IntKind.wrap_u32]; omega)) | (refine And.intro ?_ ?_; focus (simp only [zl1, zl2, zl3, zl4, zl5, zl6, zl7, zl8, zl9] <;> omega))))
      conv => whnf
      have hnext : tl i 0 (fun _ => false) ++ [((i : Int), false)] = tl (i + 1) 0 fun _ => false := by simp [tl, List.range_succ]
      rw [hnext]
      refine ⟨n - (i + 1), [0, 1, 3], tmk 109 0 [(0, .v (.int .i64 n)), (1, .slc 0 1 0 ds.length), (6, .ptr 1 0 0 0), (8, .v (.int .i64 (i + 1 : Nat)))], pHp e n (i + 1) ds, by omega, ?_⟩
      repeat ((conv => whnf); (first | refine Cnd.yes ?_ | refine Cnd.no ?_ | refine And.intro rfl ?_ | refine And.intro (by omega) ?_ | (refine And.intro ?_ ?_; focus (simp only [IntKind.wrap_i64, IntKind.wrap_u64, IntKind.wrap_u32]; omega)) | (refine And.intro ?_ ?_; focus (simp only [zl1, zl2, zl3, zl4, zl5, zl6, zl7, zl8, zl9] <;> omega))))
      conv => whnf
      exact ⟨i + 1, by omega, rfl, rfl, (tmkK_eq _ _ _ _).mpr rfl, rfl⟩
    · have hin : i = n := by have := of_decide_eq_false hge; omega
      subst hin
      repeat ((conv => whnf); (first | refine Cnd.yes ?_ | refine Cnd.no ?_ | refine And.intro rfl ?_ | refine And.intro (by omega) ?_ | (refine And.intro ?_ ?_; focus (simp only [IntKind.wrap_i64, IntKind.wrap_u64, IntKind.wrap_u32]; omega)) | (refine And.intro ?_ ?_; focus (simp only [zl1, zl2, zl3, zl4, zl5, zl6, zl7, zl8, zl9] <;> omega))))
      conv => whnf
      rw [Int.toNat_natCast]
      refine ⟨fun cnt tm hp M1 => ∃ (j next : Nat) (is : Nat → Bool), j ≤ ds.length ∧ next ≤ i ∧ cnt = ds.length - j ∧ M1 = M' ∧ tmkK 109 0 [(0, .v (.int .i64 i)), (1, .slc 0 1 0 ds.length), (6, .ptr 1 0 0 0), (11, .slc 3 1 0 i), (12, .v (.int .i64 next)), (13, .v (.int .i64 j))] (fun l => tm = l) ∧ hp = oHp e i next is ds,
        ⟨ds.length, [0, 1, 2, 3], tmk 109 0 [(0, .v (.int .i64 i)), (1, .slc 0 1 0 ds.length), (6, .ptr 1 0 0 0), (11, .slc 3 1 0 i), (12, .v (.int .i64 (0 : Nat))), (13, .v (.int .i64 (0 : Nat)))], oHp e i 0 (fun _ => false) ds, ?_⟩, ?_⟩
      · repeat ((conv => whnf); (first | refine Cnd.yes ?_ | refine Cnd.no ?_ | refine And.intro rfl ?_ | refine And.intro (by omega) ?_ | (refine And.intro ?_ ?_; focus (simp only [IntKind.wrap_i64, IntKind.wrap_u64, IntKind.wrap_u32]; omega)) | (refine And.intro ?_ ?_; focus (simp only [zl1, zl2, zl3, zl4, zl5, zl6, zl7, zl8, zl9] <;> omega))))
        conv => whnf
        refine ⟨(brow_zero i).symm, ?_⟩
        repeat ((conv => whnf); (first | refine Cnd.yes ?_ | refine Cnd.no ?_ | refine And.intro rfl ?_ | refine And.intro (by omega) ?_ | (refine And.intro ?_ ?_; focus (simp only [IntKind.wrap_i64, IntKind.wrap_u64, IntKind.wrap_u32]; omega)) | (refine And.intro ?_ ?_; focus (simp only [zl1, zl2, zl3, zl4, zl5, zl6, zl7, zl8, zl9] <;> omega))))
        conv => whnf
        exact ⟨0, 0, fun _ => false, by omega, by omega, by omega, rfl, (tmkK_eq _ _ _ _).mpr rfl, rfl⟩
      · rintro cnt tm hp M1 ⟨j, next, is, hj, hnx, rfl, rfl, htm, rfl⟩
        conv at htm => whnf
        subst htm
        repeat ((conv => whnf); (first | refine Cnd.yes ?_ | refine Cnd.no ?_ | refine And.intro rfl ?_ | refine And.intro (by omega) ?_ | (refine And.intro ?_ ?_; focus (simp only [IntKind.wrap_i64, IntKind.wrap_u64, IntKind.wrap_u32]; omega)) | (refine And.intro ?_ ?_; focus (simp only [zl1, zl2, zl3, zl4, zl5, zl6, zl7, zl8, zl9] <;> omega))))
        conv => whnf
        refine Cnd.mk (fun hlt => ?_) fun hge => ?_
        · have hjn : j < ds.length := by have := of_decide_eq_true hlt; omega
          repeat ((conv => whnf); (first | refine Cnd.yes ?_ | refine Cnd.no ?_ | refine And.intro rfl ?_ | refine And.intro (by omega) ?_ | (refine And.intro ?_ ?_; focus (simp only [IntKind.wrap_i64, IntKind.wrap_u64, IntKind.wrap_u32]; omega)) | (refine And.intro ?_ ?_; focus (simp only [zl1, zl2, zl3, zl4, zl5, zl6, zl7, zl8, zl9] <;> omega))))
          conv => whnf
          refine ⟨_, i, rfl, by omega, by omega, ?_⟩
          rw [toI_i hjn]
          obtain ⟨k, hk, hki⟩ : ∃ k : Nat, ds.getD j 0 % (i : Int) = k ∧ k < i := ⟨(ds.getD j 0 % (i : Int)).toNat, by have := Int.emod_nonneg (ds.getD j 0) (show (i : Int) ≠ 0 by omega); omega, by have := Int.emod_lt_of_pos (ds.getD j 0) (show (0 : Int) < i by omega); have := Int.emod_nonneg (ds.getD j 0) (show (i : Int) ≠ 0 by omega); omega⟩
          rw [hk]
          repeat ((conv => whnf); (first | refine Cnd.yes ?_ | refine Cnd.no ?_ | refine And.intro rfl ?_ | refine And.intro (by omega) ?_ | (refine And.intro ?_ ?_; focus (simp only [IntKind.wrap_i64, IntKind.wrap_u64, IntKind.wrap_u32]; omega)) | (refine And.intro ?_ ?_; focus (simp only [zl1, zl2, zl3, zl4, zl5, zl6, zl7, zl8, zl9] <;> omega))))
          conv => whnf
          refine ⟨i, i, 3, true, tl i next is, [], [(k : Int)], rfl, by rw [dHp, tl_len, List.append_nil]; rfl, by rw [tl_len]; omega, by simp, ?_⟩
          rw [show (doneL [(k : Int)] (tl i next is, 0)).1 = tl i next (setB is k) from tl_mark .., dHp, tl_len, List.append_nil]
          repeat ((conv => whnf); (first | refine Cnd.yes ?_ | refine Cnd.no ?_ | refine And.intro rfl ?_ | refine And.intro (by omega) ?_ | (refine And.intro ?_ ?_; focus (simp only [IntKind.wrap_i64, IntKind.wrap_u64, IntKind.wrap_u32]; omega)) | (refine And.intro ?_ ?_; focus (simp only [zl1, zl2, zl3, zl4, zl5, zl6, zl7, zl8, zl9] <;> omega))))
          conv => whnf
          rw [brow_set is hki]
          refine ⟨fun cnt tm hp M2 => ∃ nx : Nat, nx ≤ i ∧ cnt = i - nx ∧ M2 = M1 ∧ tmkK 109 0 [(0, .v (.int .i64 i)), (1, .slc 0 1 0 ds.length), (6, .ptr 1 0 0 0), (11, .slc 3 1 0 i), (12, .v (.int .i64 nx)), (13, .v (.int .i64 j))] (fun l => tm = l) ∧ hp = oHp e i nx (setB is k) ds,
            ⟨i - next, [0, 1, 2, 3], tmk 109 0 [(0, .v (.int .i64 i)), (1, .slc 0 1 0 ds.length), (6, .ptr 1 0 0 0), (11, .slc 3 1 0 i), (12, .v (.int .i64 next)), (13, .v (.int .i64 j))], oHp e i next (setB is k) ds, ?_⟩, ?_⟩
          · repeat ((conv => whnf); (first | refine Cnd.yes ?_ | refine Cnd.no ?_ | refine And.intro rfl ?_ | refine And.intro (by omega) ?_ | (refine And.intro ?_ ?_; focus (simp only [IntKind.wrap_i64, IntKind.wrap_u64, IntKind.wrap_u32]; omega)) | (refine And.intro ?_ ?_; focus (simp only [zl1, zl2, zl3, zl4, zl5, zl6, zl7, zl8, zl9] <;> omega))))
            conv => whnf
            exact ⟨next, by omega, by omega, rfl, (tmkK_eq _ _ _ _).mpr rfl, rfl⟩
          · generalize setB is k = is'
            rintro cnt tm hp M2 ⟨nx, hnx, rfl, rfl, htm, rfl⟩
            conv at htm => whnf
            subst htm
            repeat ((conv => whnf); (first | refine Cnd.yes ?_ | refine Cnd.no ?_ | refine And.intro rfl ?_ | refine And.intro (by omega) ?_ | (refine And.intro ?_ ?_; focus (simp only [IntKind.wrap_i64, IntKind.wrap_u64, IntKind.wrap_u32]; omega)) | (refine And.intro ?_ ?_; focus (simp only [zl1, zl2, zl3, zl4, zl5, zl6, zl7, zl8, zl9] <;> omega))))
            conv => whnf
            by_cases hlt2 : nx < i
            · cases hb : is' nx with
              | true =>
                have htc : ((nx : Int), true) :: tl i (nx + 1) is' = tl i nx is' := by rw [tl_cons hlt2, hb]
                refine .inr ⟨i, i, nx, tl i (nx + 1) is', [], rfl, by rw [robHp, htc, List.append_nil, tl_len]; rfl, by rw [tl_len]; omega, ?_⟩
                rw [tl_len]
                repeat ((conv => whnf); (first | refine Cnd.yes ?_ | refine Cnd.no ?_ | refine And.intro rfl ?_ | refine And.intro (by omega) ?_ | (refine And.intro ?_ ?_; focus (simp only [IntKind.wrap_i64, IntKind.wrap_u64, IntKind.wrap_u32]; omega)) | (refine And.intro ?_ ?_; focus (simp only [zl1, zl2, zl3, zl4, zl5, zl6, zl7, zl8, zl9] <;> omega))))
                conv => whnf
                refine Cnd.tt (decide_eq_true (by omega)) ?_
                repeat ((conv => whnf); (first | refine Cnd.yes ?_ | refine Cnd.no ?_ | refine And.intro rfl ?_ | refine And.intro (by omega) ?_ | (refine And.intro ?_ ?_; focus (simp only [IntKind.wrap_i64, IntKind.wrap_u64, IntKind.wrap_u32]; omega)) | (refine And.intro ?_ ?_; focus (simp only [zl1, zl2, zl3, zl4, zl5, zl6, zl7, zl8, zl9] <;> omega))))
                conv => whnf
                rw [brow_get _ hlt2, hb]
                repeat ((conv => whnf); (first | refine Cnd.yes ?_ | refine Cnd.no ?_ | refine And.intro rfl ?_ | refine And.intro (by omega) ?_ | (refine And.intro ?_ ?_; focus (simp only [IntKind.wrap_i64, IntKind.wrap_u64, IntKind.wrap_u32]; omega)) | (refine And.intro ?_ ?_; focus (simp only [zl1, zl2, zl3, zl4, zl5, zl6, zl7, zl8, zl9] <;> omega))))
                conv => whnf
                refine Cnd.ff (by simp) ?_
                repeat ((conv => whnf); (first | refine Cnd.yes ?_ | refine Cnd.no ?_ | refine And.intro rfl ?_ | refine And.intro (by omega) ?_ | (refine And.intro ?_ ?_; focus (simp only [IntKind.wrap_i64, IntKind.wrap_u64, IntKind.wrap_u32]; omega)) | (refine And.intro ?_ ?_; focus (simp only [zl1, zl2, zl3, zl4, zl5, zl6, zl7, zl8, zl9] <;> omega))))
                conv => whnf
                refine ⟨i - (nx + 1), [0, 1, 4, 3], tmk 109 0 [(0, .v (.int .i64 i)), (1, .slc 0 1 0 ds.length), (6, .ptr 1 0 0 0), (11, .slc 3 1 0 i), (12, .v (.int .i64 (nx + 1 : Nat))), (13, .v (.int .i64 j))], oHp e i (nx + 1) is' ds, by omega, ?_⟩
                repeat ((conv => whnf); (first | refine Cnd.yes ?_ | refine Cnd.no ?_ | refine And.intro rfl ?_ | refine And.intro (by omega) ?_ | (refine And.intro ?_ ?_; focus (simp only [IntKind.wrap_i64, IntKind.wrap_u64, IntKind.wrap_u32]; omega)) | (refine And.intro ?_ ?_; focus (simp only [zl1, zl2, zl3, zl4, zl5, zl6, zl7, zl8, zl9] <;> omega))))
                conv => whnf
                exact ⟨nx + 1, by omega, rfl, rfl, (tmkK_eq _ _ _ _).mpr rfl, rfl⟩
              | false =>
                refine .inl ⟨i, i, tl i nx is', [], rfl, by rw [robHp, List.append_nil, tl_len]; rfl, by rw [tl_cons hlt2]; rintro _ ⟨⟩; exact hb, ?_⟩
                rw [robHp, List.append_nil, tl_len]
                repeat ((conv => whnf); (first | refine Cnd.yes ?_ | refine Cnd.no ?_ | refine And.intro rfl ?_ | refine And.intro (by omega) ?_ | (refine And.intro ?_ ?_; focus (simp only [IntKind.wrap_i64, IntKind.wrap_u64, IntKind.wrap_u32]; omega)) | (refine And.intro ?_ ?_; focus (simp only [zl1, zl2, zl3, zl4, zl5, zl6, zl7, zl8, zl9] <;> omega))))
                conv => whnf
                refine Cnd.tt (decide_eq_true (by omega)) ?_
                repeat ((conv => whnf); (first | refine Cnd.yes ?_ | refine Cnd.no ?_ | refine And.intro rfl ?_ | refine And.intro (by omega) ?_ | (refine And.intro ?_ ?_; focus (simp only [IntKind.wrap_i64, IntKind.wrap_u64, IntKind.wrap_u32]; omega)) | (refine And.intro ?_ ?_; focus (simp only [zl1, zl2, zl3, zl4, zl5, zl6, zl7, zl8, zl9] <;> omega))))
                conv => whnf
                rw [brow_get _ hlt2, hb]
                repeat ((conv => whnf); (first | refine Cnd.yes ?_ | refine Cnd.no ?_ | refine And.intro rfl ?_ | refine And.intro (by omega) ?_ | (refine And.intro ?_ ?_; focus (simp only [IntKind.wrap_i64, IntKind.wrap_u64, IntKind.wrap_u32]; omega)) | (refine And.intro ?_ ?_; focus (simp only [zl1, zl2, zl3, zl4, zl5, zl6, zl7, zl8, zl9] <;> omega))))
                conv => whnf
                refine ⟨ds.length - (j + 1), [0, 1, 2, 3], tmk 109 0 [(0, .v (.int .i64 i)), (1, .slc 0 1 0 ds.length), (6, .ptr 1 0 0 0), (11, .slc 3 1 0 i), (12, .v (.int .i64 nx)), (13, .v (.int .i64 (j + 1 : Nat)))], oHp e i nx is' ds, by omega, ?_⟩
                repeat ((conv => whnf); (first | refine Cnd.yes ?_ | refine Cnd.no ?_ | refine And.intro rfl ?_ | refine And.intro (by omega) ?_ | (refine And.intro ?_ ?_; focus (simp only [IntKind.wrap_i64, IntKind.wrap_u64, IntKind.wrap_u32]; omega)) | (refine And.intro ?_ ?_; focus (simp only [zl1, zl2, zl3, zl4, zl5, zl6, zl7, zl8, zl9] <;> omega))))
                conv => whnf
                exact ⟨j + 1, nx, is', by omega, by omega, rfl, rfl, (tmkK_eq _ _ _ _).mpr rfl, rfl⟩
            · refine .inl ⟨i, i, tl i nx is', [], rfl, by rw [robHp, List.append_nil, tl_len]; rfl, by rw [tl_nil (by omega)]; simp, ?_⟩
              rw [robHp, List.append_nil, tl_len]
              repeat ((conv => whnf); (first | refine Cnd.yes ?_ | refine Cnd.no ?_ | refine And.intro rfl ?_ | refine And.intro (by omega) ?_ | (refine And.intro ?_ ?_; focus (simp only [IntKind.wrap_i64, IntKind.wrap_u64, IntKind.wrap_u32]; omega)) | (refine And.intro ?_ ?_; focus (simp only [zl1, zl2, zl3, zl4, zl5, zl6, zl7, zl8, zl9] <;> omega))))
              conv => whnf
              refine Cnd.ff (decide_eq_false (by omega)) ?_
              repeat ((conv => whnf); (first | refine Cnd.yes ?_ | refine Cnd.no ?_ | refine And.intro rfl ?_ | refine And.intro (by omega) ?_ | (refine And.intro ?_ ?_; focus (simp only [IntKind.wrap_i64, IntKind.wrap_u64, IntKind.wrap_u32]; omega)) | (refine And.intro ?_ ?_; focus (simp only [zl1, zl2, zl3, zl4, zl5, zl6, zl7, zl8, zl9] <;> omega))))
              conv => whnf
              refine ⟨ds.length - (j + 1), [0, 1, 2, 3], tmk 109 0 [(0, .v (.int .i64 i)), (1, .slc 0 1 0 ds.length), (6, .ptr 1 0 0 0), (11, .slc 3 1 0 i), (12, .v (.int .i64 nx)), (13, .v (.int .i64 (j + 1 : Nat)))], oHp e i nx is' ds, by omega, ?_⟩
              repeat ((conv => whnf); (first | refine Cnd.yes ?_ | refine Cnd.no ?_ | refine And.intro rfl ?_ | refine And.intro (by omega) ?_ | (refine And.intro ?_ ?_; focus (simp only [IntKind.wrap_i64, IntKind.wrap_u64, IntKind.wrap_u32]; omega)) | (refine And.intro ?_ ?_; focus (simp only [zl1, zl2, zl3, zl4, zl5, zl6, zl7, zl8, zl9] <;> omega))))
              conv => whnf
              exact ⟨j + 1, nx, is', by omega, by omega, rfl, rfl, (tmkK_eq _ _ _ _).mpr rfl, rfl⟩
        · have hjn : j = ds.length := by have := of_decide_eq_false hge; omega
          subst hjn
          repeat ((conv => whnf); (first | refine Cnd.yes ?_ | refine Cnd.no ?_ | refine And.intro rfl ?_ | refine And.intro (by omega) ?_ | (refine And.intro ?_ ?_; focus (simp only [IntKind.wrap_i64, IntKind.wrap_u64, IntKind.wrap_u32]; omega)) | (refine And.intro ?_ ?_; focus (simp only [zl1, zl2, zl3, zl4, zl5, zl6, zl7, zl8, zl9] <;> omega))))
          conv => whnf
          rw [show (((i - next : Nat) : Int) == IntKind.i64.wrap ((i : Int) - next)) = true from by rw [IntKind.wrap_i64, beq_iff_eq]; omega]
          exact hK _
end Go.Proofs.YthmofpilphfkcaaDoor
