/-
  NetKeeps' plain law: which messages are on their way; SameMsg of a message with itself, walked.
-/
import Derived.Test.YthomcgclkbmnkaaDoorCh
namespace Go.Proofs.YthomcgclkbmnkaaDoor
open Go Go.Vc
set_option maxRecDepth 100000
set_option linter.unusedSimpArgs false
set_option linter.unusedVariables false
set_option maxHeartbeats 4000000
/-- Those on their way: by number, the ones that are not gone. -/
def flO (S : List Msg) (j : Nat) : Fl := ((j : Int), S.getD j zmsg)
def flA (S : List Msg) (g : Nat → Bool) : List Fl := ((List.range S.length).filter fun j => !g j).map (flO S)
theorem flA_len (S : List Msg) (g : Nat → Bool) : (flA S g).length ≤ S.length := by
  rw [flA, List.length_map]
  exact Nat.le_trans (List.length_filter_le _ _) (by simp)
theorem flA_push (S : List Msg) (m : Msg) : flA (S ++ [m]) (fun _ => false) = flA S (fun _ => false) ++ [((S.length : Int), m)] := by
  unfold flA
  rw [List.length_append, List.length_singleton, List.range_succ, List.filter_append, List.map_append]
  congr 1
  · refine List.map_congr_left fun j hj => ?_
    have hjl := List.mem_range.1 (List.mem_filter.1 hj).1
    simp [flO, List.getD, List.getElem?_append_left hjl]
  · simp [flO, List.getD]
theorem range_split {k n : Nat} (h : k < n) : List.range n = List.range k ++ k :: (List.range (n - (k + 1))).map (fun j => k + 1 + j) := by
  obtain ⟨r, rfl⟩ : ∃ r, n = k + 1 + r := ⟨n - (k + 1), by omega⟩
  rw [List.range_add, List.range_succ, List.append_assoc, Nat.add_sub_cancel_left]
  rfl
def setG (g : Nat → Bool) (k j : Nat) : Bool := if j = k then true else g j
theorem flA_take {S : List Msg} {g : Nat → Bool} {k : Nat} (hk : k < S.length) (hg : g k = false) :
    ∃ P Q, flA S g = P ++ ((k : Int), S.getD k zmsg) :: Q ∧ flA S (setG g k) = P ++ Q ∧ ∀ y ∈ P, y.1 ≠ (k : Int) := by
  refine ⟨((List.range k).filter fun j => !g j).map (flO S), (((List.range (S.length - (k + 1))).map (fun j => k + 1 + j)).filter fun j => !g j).map (flO S), ?_, ?_, fun y hy => ?_⟩
  · rw [flA, range_split hk, List.filter_append, List.filter_cons, hg, List.map_append]
    rfl
  · rw [flA, range_split hk, List.filter_append, List.filter_cons, List.map_append]
    have h1 : setG g k k = true := if_pos rfl
    rw [h1]
    congr 2
    · refine List.filter_congr fun j hj => ?_
      have := List.mem_range.1 hj
      rw [setG, if_neg (by omega)]
    · refine List.filter_congr fun j hj => ?_
      obtain ⟨q, _, rfl⟩ := List.mem_map.1 hj
      rw [setG, if_neg (by omega)]
  · obtain ⟨j, hj, rfl⟩ := List.mem_map.1 hy
    have := List.mem_range.1 (List.mem_filter.1 hj).1
    show (j : Int) ≠ k
    omega
theorem flA_no {S : List Msg} {g : Nat → Bool} {k : Nat} (hg : g k = true) : ∀ y ∈ flA S g, y.1 ≠ (k : Int) := fun y hy => by
  obtain ⟨j, hj, rfl⟩ := List.mem_map.1 hy
  have h1 := (List.mem_filter.1 hj).2
  show (j : Int) ≠ k
  intro h
  obtain rfl : j = k := by omega
  rw [hg] at h1
  cases h1
theorem flA_done {S : List Msg} {g : Nat → Bool} (h : ∀ j, j < S.length → g j = true) : (flA S g).length = 0 := by
  rw [flA, List.length_map, List.length_eq_zero_iff]
  refine List.filter_eq_nil_iff.2 fun j hj => ?_
  rw [h j (List.mem_range.1 hj)]
  simp
theorem flA_setlen {S : List Msg} {g : Nat → Bool} {k : Nat} (hk : k < S.length) (hg : g k = false) : (flA S g).length = (flA S (setG g k)).length + 1 := by
  obtain ⟨P, Q, h1, h2, _⟩ := flA_take hk hg
  rw [h1, h2]
  simp only [List.length_append, List.length_cons]
  omega
/-- Whoever has gone round once has met all. -/
theorem round_all {n no i : Nat} {g : Nat → Bool} (hn : 0 < n) (hi : no + n ≤ i) (h : ∀ j, no ≤ j → j < i → g (j % n) = true) (r : Nat) (hr : r < n) : g r = true := by
  have h1 := Nat.div_add_mod no n
  have h2 := Nat.mod_lt no hn
  by_cases hc : no % n ≤ r
  · have := h (n * (no / n) + r) (by omega) (by omega)
    rwa [Nat.mul_add_mod, Nat.mod_eq_of_lt hr] at this
  · have h3 : n * (no / n + 1) = n * (no / n) + n := by rw [Nat.mul_add, Nat.mul_one]
    have := h (n * (no / n + 1) + r) (by omega) (by omega)
    rwa [Nat.mul_add_mod, Nat.mod_eq_of_lt hr] at this
theorem setG_keep {g : Nat → Bool} {k j : Nat} (h : g j = true) : setG g k j = true := by
  unfold setG
  split
  · rfl
  · exact h
theorem number_run (M : HL) (K : SV → List Ent → HL → Prop) (hp : List Ent) (x b : Int) (hb : 0 < b) (hb2 : b ≤ 1000000) (hK : K (.v (.int .i64 (x % b))) hp M) : runF G0 pf16 [.v (.int .i64 x), .v (.int .i64 b)] hp M K := by
  have h1 : -b < Int.tmod x b := Int.lt_tmod_of_pos x hb
  have h2 : Int.tmod x b < b := Int.tmod_lt_of_pos x hb
  have e : IntKind.i64.wrap (Int.tmod x b + b) = Int.tmod x b + b := by rw [IntKind.wrap_i64]; omega
  have e2 : Int.tmod (Int.tmod x b + b) b = x % b := by
    rw [Int.tmod_eq_emod_of_nonneg (by omega), Int.add_emod_right]
    have := Int.mul_tdiv_add_tmod x b
    conv => rhs; rw [← this]
    rw [Int.add_comm, Int.add_mul_emod_self_left]
  repeat ((conv => whnf); (first | refine Cnd.yes ?_ | refine Cnd.no ?_ | refine And.intro rfl ?_ | refine And.intro (by omega) ?_ | (refine And.intro ?_ ?_; focus (simp only [IntKind.wrap_i64, IntKind.wrap_u64, IntKind.wrap_u32]; omega)) | (refine And.intro ?_ ?_; focus (simp only [zl1, zl2, zl3, zl4, zl5, zl6, zl7, zl8, zl9] <;> omega)) | refine Alt.std ?_))
  conv => whnf
  rw [e]
  repeat ((conv => whnf); (first | refine Cnd.yes ?_ | refine Cnd.no ?_ | refine And.intro rfl ?_ | refine And.intro (by omega) ?_ | (refine And.intro ?_ ?_; focus (simp only [IntKind.wrap_i64, IntKind.wrap_u64, IntKind.wrap_u32]; omega)) | (refine And.intro ?_ ?_; focus (simp only [zl1, zl2, zl3, zl4, zl5, zl6, zl7, zl8, zl9] <;> omega)) | refine Alt.std ?_))
  conv => whnf
  rw [e2]
  exact hK
def numS : Vc.Spec := fun args hp _ K => ∃ x b : Int, args = [.v (.int .i64 x), .v (.int .i64 b)] ∧ 0 < b ∧ b ≤ 1000000 ∧ K (.v (.int .i64 (x % b))) hp
theorem num_ok : SOK Tryd.prog 16 numS := by
  refine TOK.weaken (runF_eq G0_ok mixed at16.1 at16.2 pf16_eq) fun args hp M K h => ?_
  obtain ⟨x, b, rfl, h1, h2, h3⟩ := h
  exact number_run M K hp x b h1 h2 h3
theorem samemsg_run (M : HL) (K : SV → List Ent → HL → Prop) (m : Msg) (hK : K (.v (.bool true)) [] M) :
    runF G0 pf18 [msgV m, msgV m] [] M fun v hp2 M2 => ∃ m v' hp', Wk (llen ([] : List Ent)) m [v] hp2 [v'] hp' (K v' hp' M2) := by
  repeat ((conv => whnf); (first | refine Cnd.yes ?_ | refine Cnd.no ?_ | refine And.intro rfl ?_ | refine And.intro (by omega) ?_ | (refine And.intro ?_ ?_; focus (simp only [IntKind.wrap_i64, IntKind.wrap_u64, IntKind.wrap_u32]; omega)) | (refine And.intro ?_ ?_; focus (simp only [zl1, zl2, zl3, zl4, zl5, zl6, zl7, zl8, zl9] <;> omega)) | refine Alt.std ?_ | (refine Cnd.tt ?_ ?_; focus (first | (apply decide_eq_true; omega) | (simp only [zq1, zq2, zq3, zq4, zq5, zq6, zq7, zq8, zq9, zq10, zq11, zq12] <;> omega) | rfl)) | (refine Cnd.ff ?_ ?_; focus (first | (apply decide_eq_false; omega) | (simp only [zq1, zq2, zq3, zq4, zq5, zq6, zq7, zq8, zq9, zq10, zq11, zq12] <;> omega) | rfl))))
  conv => whnf
  refine ⟨0, rfl, by omega, ?_⟩
  repeat ((conv => whnf); (first | refine Cnd.yes ?_ | refine Cnd.no ?_ | refine And.intro rfl ?_ | refine And.intro (by omega) ?_ | (refine And.intro ?_ ?_; focus (simp only [IntKind.wrap_i64, IntKind.wrap_u64, IntKind.wrap_u32]; omega)) | (refine And.intro ?_ ?_; focus (simp only [zl1, zl2, zl3, zl4, zl5, zl6, zl7, zl8, zl9] <;> omega)) | refine Alt.std ?_ | (refine Cnd.tt ?_ ?_; focus (first | (apply decide_eq_true; omega) | (simp only [zq1, zq2, zq3, zq4, zq5, zq6, zq7, zq8, zq9, zq10, zq11, zq12] <;> omega) | rfl)) | (refine Cnd.ff ?_ ?_; focus (first | (apply decide_eq_false; omega) | (simp only [zq1, zq2, zq3, zq4, zq5, zq6, zq7, zq8, zq9, zq10, zq11, zq12] <;> omega) | rfl))))
  conv => whnf
  refine ⟨0, rfl, by omega, ?_⟩
  repeat ((conv => whnf); (first | refine Cnd.yes ?_ | refine Cnd.no ?_ | refine And.intro rfl ?_ | refine And.intro (by omega) ?_ | (refine And.intro ?_ ?_; focus (simp only [IntKind.wrap_i64, IntKind.wrap_u64, IntKind.wrap_u32]; omega)) | (refine And.intro ?_ ?_; focus (simp only [zl1, zl2, zl3, zl4, zl5, zl6, zl7, zl8, zl9] <;> omega)) | refine Alt.std ?_ | (refine Cnd.tt ?_ ?_; focus (first | (apply decide_eq_true; omega) | (simp only [zq1, zq2, zq3, zq4, zq5, zq6, zq7, zq8, zq9, zq10, zq11, zq12] <;> omega) | rfl)) | (refine Cnd.ff ?_ ?_; focus (first | (apply decide_eq_false; omega) | (simp only [zq1, zq2, zq3, zq4, zq5, zq6, zq7, zq8, zq9, zq10, zq11, zq12] <;> omega) | rfl))))
  conv => whnf
  refine ⟨1, rfl, by omega, ?_⟩
  repeat ((conv => whnf); (first | refine Cnd.yes ?_ | refine Cnd.no ?_ | refine And.intro rfl ?_ | refine And.intro (by omega) ?_ | (refine And.intro ?_ ?_; focus (simp only [IntKind.wrap_i64, IntKind.wrap_u64, IntKind.wrap_u32]; omega)) | (refine And.intro ?_ ?_; focus (simp only [zl1, zl2, zl3, zl4, zl5, zl6, zl7, zl8, zl9] <;> omega)) | refine Alt.std ?_ | (refine Cnd.tt ?_ ?_; focus (first | (apply decide_eq_true; omega) | (simp only [zq1, zq2, zq3, zq4, zq5, zq6, zq7, zq8, zq9, zq10, zq11, zq12] <;> omega) | rfl)) | (refine Cnd.ff ?_ ?_; focus (first | (apply decide_eq_false; omega) | (simp only [zq1, zq2, zq3, zq4, zq5, zq6, zq7, zq8, zq9, zq10, zq11, zq12] <;> omega) | rfl))))
  conv => whnf
  refine ⟨1, rfl, by omega, ?_⟩
  repeat ((conv => whnf); (first | refine Cnd.yes ?_ | refine Cnd.no ?_ | refine And.intro rfl ?_ | refine And.intro (by omega) ?_ | (refine And.intro ?_ ?_; focus (simp only [IntKind.wrap_i64, IntKind.wrap_u64, IntKind.wrap_u32]; omega)) | (refine And.intro ?_ ?_; focus (simp only [zl1, zl2, zl3, zl4, zl5, zl6, zl7, zl8, zl9] <;> omega)) | refine Alt.std ?_ | (refine Cnd.tt ?_ ?_; focus (first | (apply decide_eq_true; omega) | (simp only [zq1, zq2, zq3, zq4, zq5, zq6, zq7, zq8, zq9, zq10, zq11, zq12] <;> omega) | rfl)) | (refine Cnd.ff ?_ ?_; focus (first | (apply decide_eq_false; omega) | (simp only [zq1, zq2, zq3, zq4, zq5, zq6, zq7, zq8, zq9, zq10, zq11, zq12] <;> omega) | rfl))))
  conv => whnf
  refine ⟨2, rfl, by omega, ?_⟩
  repeat ((conv => whnf); (first | refine Cnd.yes ?_ | refine Cnd.no ?_ | refine And.intro rfl ?_ | refine And.intro (by omega) ?_ | (refine And.intro ?_ ?_; focus (simp only [IntKind.wrap_i64, IntKind.wrap_u64, IntKind.wrap_u32]; omega)) | (refine And.intro ?_ ?_; focus (simp only [zl1, zl2, zl3, zl4, zl5, zl6, zl7, zl8, zl9] <;> omega)) | refine Alt.std ?_ | (refine Cnd.tt ?_ ?_; focus (first | (apply decide_eq_true; omega) | (simp only [zq1, zq2, zq3, zq4, zq5, zq6, zq7, zq8, zq9, zq10, zq11, zq12] <;> omega) | rfl)) | (refine Cnd.ff ?_ ?_; focus (first | (apply decide_eq_false; omega) | (simp only [zq1, zq2, zq3, zq4, zq5, zq6, zq7, zq8, zq9, zq10, zq11, zq12] <;> omega) | rfl))))
  conv => whnf
  refine ⟨2, rfl, by omega, ?_⟩
  repeat ((conv => whnf); (first | refine Cnd.yes ?_ | refine Cnd.no ?_ | refine And.intro rfl ?_ | refine And.intro (by omega) ?_ | (refine And.intro ?_ ?_; focus (simp only [IntKind.wrap_i64, IntKind.wrap_u64, IntKind.wrap_u32]; omega)) | (refine And.intro ?_ ?_; focus (simp only [zl1, zl2, zl3, zl4, zl5, zl6, zl7, zl8, zl9] <;> omega)) | refine Alt.std ?_ | (refine Cnd.tt ?_ ?_; focus (first | (apply decide_eq_true; omega) | (simp only [zq1, zq2, zq3, zq4, zq5, zq6, zq7, zq8, zq9, zq10, zq11, zq12] <;> omega) | rfl)) | (refine Cnd.ff ?_ ?_; focus (first | (apply decide_eq_false; omega) | (simp only [zq1, zq2, zq3, zq4, zq5, zq6, zq7, zq8, zq9, zq10, zq11, zq12] <;> omega) | rfl))))
  conv => whnf
  refine ⟨3, rfl, by omega, ?_⟩
  repeat ((conv => whnf); (first | refine Cnd.yes ?_ | refine Cnd.no ?_ | refine And.intro rfl ?_ | refine And.intro (by omega) ?_ | (refine And.intro ?_ ?_; focus (simp only [IntKind.wrap_i64, IntKind.wrap_u64, IntKind.wrap_u32]; omega)) | (refine And.intro ?_ ?_; focus (simp only [zl1, zl2, zl3, zl4, zl5, zl6, zl7, zl8, zl9] <;> omega)) | refine Alt.std ?_ | (refine Cnd.tt ?_ ?_; focus (first | (apply decide_eq_true; omega) | (simp only [zq1, zq2, zq3, zq4, zq5, zq6, zq7, zq8, zq9, zq10, zq11, zq12] <;> omega) | rfl)) | (refine Cnd.ff ?_ ?_; focus (first | (apply decide_eq_false; omega) | (simp only [zq1, zq2, zq3, zq4, zq5, zq6, zq7, zq8, zq9, zq10, zq11, zq12] <;> omega) | rfl))))
  conv => whnf
  refine ⟨3, rfl, by omega, ?_⟩
  repeat ((conv => whnf); (first | refine Cnd.yes ?_ | refine Cnd.no ?_ | refine And.intro rfl ?_ | refine And.intro (by omega) ?_ | (refine And.intro ?_ ?_; focus (simp only [IntKind.wrap_i64, IntKind.wrap_u64, IntKind.wrap_u32]; omega)) | (refine And.intro ?_ ?_; focus (simp only [zl1, zl2, zl3, zl4, zl5, zl6, zl7, zl8, zl9] <;> omega)) | refine Alt.std ?_ | (refine Cnd.tt ?_ ?_; focus (first | (apply decide_eq_true; omega) | (simp only [zq1, zq2, zq3, zq4, zq5, zq6, zq7, zq8, zq9, zq10, zq11, zq12] <;> omega) | rfl)) | (refine Cnd.ff ?_ ?_; focus (first | (apply decide_eq_false; omega) | (simp only [zq1, zq2, zq3, zq4, zq5, zq6, zq7, zq8, zq9, zq10, zq11, zq12] <;> omega) | rfl))))
  conv => whnf
  refine ⟨[], .v (.bool true), [], ?_⟩
  repeat ((conv => whnf); (first | refine Cnd.yes ?_ | refine Cnd.no ?_ | refine And.intro rfl ?_ | refine And.intro (by omega) ?_ | (refine And.intro ?_ ?_; focus (simp only [IntKind.wrap_i64, IntKind.wrap_u64, IntKind.wrap_u32]; omega)) | (refine And.intro ?_ ?_; focus (simp only [zl1, zl2, zl3, zl4, zl5, zl6, zl7, zl8, zl9] <;> omega)) | refine Alt.std ?_))
  conv => whnf
  refine ⟨by simp, ?_⟩
  repeat ((conv => whnf); (first | refine Cnd.yes ?_ | refine Cnd.no ?_ | refine And.intro rfl ?_ | refine And.intro (by omega) ?_ | (refine And.intro ?_ ?_; focus (simp only [IntKind.wrap_i64, IntKind.wrap_u64, IntKind.wrap_u32]; omega)) | (refine And.intro ?_ ?_; focus (simp only [zl1, zl2, zl3, zl4, zl5, zl6, zl7, zl8, zl9] <;> omega)) | refine Alt.std ?_))
  conv => whnf
  exact hK
def samemsgS : Vc.Spec := fun args hp _ K => ∃ m : Msg, args = [msgV m, msgV m] ∧ hp = [] ∧ K (.v (.bool true)) []
theorem samemsg_ok : SOK Tryd.prog 18 samemsgS := by
  refine TOK.weaken (TOK.out (runF_eq G0_ok mixed at18.1 at18.2 pf18_eq)) fun args hp M K h => ?_
  obtain ⟨m, rfl, rfl, h⟩ := h
  exact samemsg_run M K m h
noncomputable def specsK : Nat → Option Vc.Trans := tget [(7, frameT firstS), (8, frameT newS), (9, frameT sendS), (12, frameT lenS), (13, frameT allS), (14, frameT classS), (16, frameT numS), (17, frameM takeT), (18, frameT samemsgS)]
noncomputable def GK : Nat → Option Vc.Trans := tabG specsK (tget tab) 5
theorem GK_ok : GOK Tryd.prog GK := tabG_ok (GOK.cons (frame_ok first_ok) (GOK.cons (frame_ok new_ok) (GOK.cons (frame_ok send_ok) (GOK.cons (frame_ok len_ok) (GOK.cons (frame_ok all_ok) (GOK.cons (frame_ok class_ok) (GOK.cons (frame_ok num_ok) (GOK.cons (frameM_ok take_ok) (GOK.cons (frame_ok samemsg_ok) .nil))))))))) tab_ok 5
end Go.Proofs.YthomcgclkbmnkaaDoor
