/-
  Lists of numbers: Contains, Clone; the map: New, Of, Take, loose; walked, with their contracts.
-/
import Derived.Test.YtlbjheknhoigpaaDoorCa
import Derived.Test.YtlbjheknhoigpaaDoorVcu
namespace Go.Proofs.YtlbjheknhoigpaaDoor
open Go Go.Vc
set_option maxRecDepth 100000
set_option linter.unusedSimpArgs false
set_option linter.unusedVariables false
theorem number_run (M : HL) (K : SV → List Ent → HL → Prop) (hp : List Ent) (x b : Int) (hb : 0 < b) (hb2 : b ≤ 1000000) (hK : K (.v (.int .i64 (x % b))) hp M) : runF G0 pf7 [.v (.int .i64 x), .v (.int .i64 b)] hp M K := by
  have h1 : -b < Int.tmod x b := Int.lt_tmod_of_pos x hb
  have h2 : Int.tmod x b < b := Int.tmod_lt_of_pos x hb
  have e : IntKind.i64.wrap (Int.tmod x b + b) = Int.tmod x b + b := by rw [IntKind.wrap_i64]; omega
  have e2 : Int.tmod (Int.tmod x b + b) b = x % b := by
    rw [Int.tmod_eq_emod_of_nonneg (by omega), Int.add_emod_right]
    have := Int.mul_tdiv_add_tmod x b
    conv => rhs; rw [← this]
    rw [Int.add_comm, Int.add_mul_emod_self_left]
  repeat ((conv => whnf); (first | refine Cnd.yes ?_ | refine Cnd.no ?_ | refine And.intro rfl ?_ | refine And.intro (by omega) ?_ | (refine And.intro ?_ ?_; focus (simp only [IntKind.wrap_i64, IntKind.wrap_u64, IntKind.wrap_u32]; omega)) | (refine And.intro ?_ ?_; focus (first | (simp only [tblOf_len, List.length_map, List.length_append, List.length_cons, List.length_nil, List.length_take, List.length_drop, List.length_replicate]; omega) | (simp only [tblOf_len, List.length_map, List.length_append, List.length_cons, List.length_nil, List.length_take, List.length_drop, List.length_replicate]; done)))))
  conv => whnf
  rw [e]
  repeat ((conv => whnf); (first | refine Cnd.yes ?_ | refine Cnd.no ?_ | refine And.intro rfl ?_ | refine And.intro (by omega) ?_ | (refine And.intro ?_ ?_; focus (simp only [IntKind.wrap_i64, IntKind.wrap_u64, IntKind.wrap_u32]; omega)) | (refine And.intro ?_ ?_; focus (first | (simp only [tblOf_len, List.length_map, List.length_append, List.length_cons, List.length_nil, List.length_take, List.length_drop, List.length_replicate]; omega) | (simp only [tblOf_len, List.length_map, List.length_append, List.length_cons, List.length_nil, List.length_take, List.length_drop, List.length_replicate]; done)))))
  conv => whnf
  rw [e2]
  exact hK
def numS : Vc.Spec := fun args hp _ K => ∃ (x b : Int), args = [.v (.int .i64 x), .v (.int .i64 b)] ∧ 0 < b ∧ b ≤ 1000000 ∧ K (.v (.int .i64 (x % b))) hp
theorem num_ok : SOK Tryd.prog 7 numS := by
  refine TOK.weaken (runF_eq G0_ok mixed at7.1 at7.2 pf7_eq) fun args hp M K h => ?_
  obtain ⟨x, b, rfl, h1, h2, h3⟩ := h
  exact number_run M K hp x b h1 h2 h3
theorem has_run (o : Bool) (M : HL) (K : SV → List Ent → HL → Prop) (l : List Int) (v : Int) (hl : l.length ≤ 1000000) (hK : K (.v (.bool (decide (v ∈ l)))) [.row o 3 [.int .i64] (l.map irow)] M) :
    runF G0 pf28 [.slc 0 1 0 l.length, .v (.int .i64 v)] [.row o 3 [.int .i64] (l.map irow)] M K := by
  repeat ((conv => whnf); (first | refine Cnd.yes ?_ | refine Cnd.no ?_ | refine And.intro rfl ?_ | refine And.intro (by omega) ?_ | (refine And.intro ?_ ?_; focus (simp only [IntKind.wrap_i64, IntKind.wrap_u64, IntKind.wrap_u32]; omega)) | (refine And.intro ?_ ?_; focus (first | (simp only [tblOf_len, List.length_map, List.length_append, List.length_cons, List.length_nil, List.length_take, List.length_drop, List.length_replicate]; omega) | (simp only [tblOf_len, List.length_map, List.length_append, List.length_cons, List.length_nil, List.length_take, List.length_drop, List.length_replicate]; done)))))
  conv => whnf
  refine ⟨fun cnt tm hp M' => ∃ i, i ≤ l.length ∧ (∀ j, j < i → l.getD j 0 ≠ v) ∧ cnt = l.length - i ∧ M' = M ∧ tmkK 19 0 [(0, .slc 0 1 0 l.length), (1, .v (.int .i64 v)), (7, .v (.int .i64 l.length)), (8, .v (.int .i64 (i : Nat)))] (fun l => tm = l) ∧ hp = [.row o 3 [.int .i64] (l.map irow)],
    ⟨l.length, [0], tmk 19 0 [(0, .slc 0 1 0 l.length), (1, .v (.int .i64 v)), (7, .v (.int .i64 l.length)), (8, .v (.int .i64 (0 : Nat)))], [.row o 3 [.int .i64] (l.map irow)], ?_⟩, ?_⟩
  · repeat ((conv => whnf); (first | refine Cnd.yes ?_ | refine Cnd.no ?_ | refine And.intro rfl ?_ | refine And.intro (by omega) ?_ | (refine And.intro ?_ ?_; focus (simp only [IntKind.wrap_i64, IntKind.wrap_u64, IntKind.wrap_u32]; omega)) | (refine And.intro ?_ ?_; focus (first | (simp only [tblOf_len, List.length_map, List.length_append, List.length_cons, List.length_nil, List.length_take, List.length_drop, List.length_replicate]; omega) | (simp only [tblOf_len, List.length_map, List.length_append, List.length_cons, List.length_nil, List.length_take, List.length_drop, List.length_replicate]; done)))))
    conv => whnf
    exact ⟨0, by omega, fun j hj => by omega, by omega, rfl, (tmkK_eq _ _ _ _).mpr rfl, rfl⟩
  · rintro cnt tm hp M' ⟨i, hi, hall, rfl, rfl, htm, rfl⟩
    conv at htm => whnf
    subst htm
    repeat ((conv => whnf); (first | refine Cnd.yes ?_ | refine Cnd.no ?_ | refine And.intro rfl ?_ | refine And.intro (by omega) ?_ | (refine And.intro ?_ ?_; focus (simp only [IntKind.wrap_i64, IntKind.wrap_u64, IntKind.wrap_u32]; omega)) | (refine And.intro ?_ ?_; focus (first | (simp only [tblOf_len, List.length_map, List.length_append, List.length_cons, List.length_nil, List.length_take, List.length_drop, List.length_replicate]; omega) | (simp only [tblOf_len, List.length_map, List.length_append, List.length_cons, List.length_nil, List.length_take, List.length_drop, List.length_replicate]; done)))))
    conv => whnf
    refine Cnd.mk (fun hlt => ?_) fun hge => ?_
    · have hin : i < l.length := by have := of_decide_eq_true hlt; omega
      repeat ((conv => whnf); (first | refine Cnd.yes ?_ | refine Cnd.no ?_ | refine And.intro rfl ?_ | refine And.intro (by omega) ?_ | (refine And.intro ?_ ?_; focus (simp only [IntKind.wrap_i64, IntKind.wrap_u64, IntKind.wrap_u32]; omega)) | (refine And.intro ?_ ?_; focus (first | (simp only [tblOf_len, List.length_map, List.length_append, List.length_cons, List.length_nil, List.length_take, List.length_drop, List.length_replicate]; omega) | (simp only [tblOf_len, List.length_map, List.length_append, List.length_cons, List.length_nil, List.length_take, List.length_drop, List.length_replicate]; done)))))
      conv => whnf
      rw [toI_i hin]
      by_cases hv : l.getD i 0 = v
      · refine Cnd.tt (by rw [hv]; simp) ?_
        repeat ((conv => whnf); (first | refine Cnd.yes ?_ | refine Cnd.no ?_ | refine And.intro rfl ?_ | refine And.intro (by omega) ?_ | (refine And.intro ?_ ?_; focus (simp only [IntKind.wrap_i64, IntKind.wrap_u64, IntKind.wrap_u32]; omega)) | (refine And.intro ?_ ?_; focus (first | (simp only [tblOf_len, List.length_map, List.length_append, List.length_cons, List.length_nil, List.length_take, List.length_drop, List.length_replicate]; omega) | (simp only [tblOf_len, List.length_map, List.length_append, List.length_cons, List.length_nil, List.length_take, List.length_drop, List.length_replicate]; done)))))
        conv => whnf
        have hm : v ∈ l := by
          rw [← hv]
          simp [List.getD, List.getElem?_eq_getElem hin]
        rw [decide_eq_true hm] at hK
        rw [decide_eq_true (show (i : Int) ≥ 0 by omega)]
        exact hK
      · refine Cnd.ff (by simp only [beq_eq_false_iff_ne]; omega) ?_
        repeat ((conv => whnf); (first | refine Cnd.yes ?_ | refine Cnd.no ?_ | refine And.intro rfl ?_ | refine And.intro (by omega) ?_ | (refine And.intro ?_ ?_; focus (simp only [IntKind.wrap_i64, IntKind.wrap_u64, IntKind.wrap_u32]; omega)) | (refine And.intro ?_ ?_; focus (first | (simp only [tblOf_len, List.length_map, List.length_append, List.length_cons, List.length_nil, List.length_take, List.length_drop, List.length_replicate]; omega) | (simp only [tblOf_len, List.length_map, List.length_append, List.length_cons, List.length_nil, List.length_take, List.length_drop, List.length_replicate]; done)))))
        conv => whnf
        refine ⟨l.length - (i + 1), [0], tmk 19 0 [(0, .slc 0 1 0 l.length), (1, .v (.int .i64 v)), (7, .v (.int .i64 l.length)), (8, .v (.int .i64 (i + 1 : Nat)))], [.row o 3 [.int .i64] (l.map irow)], by omega, ?_⟩
        repeat ((conv => whnf); (first | refine Cnd.yes ?_ | refine Cnd.no ?_ | refine And.intro rfl ?_ | refine And.intro (by omega) ?_ | (refine And.intro ?_ ?_; focus (simp only [IntKind.wrap_i64, IntKind.wrap_u64, IntKind.wrap_u32]; omega)) | (refine And.intro ?_ ?_; focus (first | (simp only [tblOf_len, List.length_map, List.length_append, List.length_cons, List.length_nil, List.length_take, List.length_drop, List.length_replicate]; omega) | (simp only [tblOf_len, List.length_map, List.length_append, List.length_cons, List.length_nil, List.length_take, List.length_drop, List.length_replicate]; done)))))
        conv => whnf
        exact ⟨i + 1, by omega, fun j hj => by
          by_cases h : j = i
          · rw [h]; exact hv
          · exact hall j (by omega), rfl, rfl, (tmkK_eq _ _ _ _).mpr rfl, rfl⟩
    · have hin : i = l.length := by have := of_decide_eq_false hge; omega
      subst hin
      repeat ((conv => whnf); (first | refine Cnd.yes ?_ | refine Cnd.no ?_ | refine And.intro rfl ?_ | refine And.intro (by omega) ?_ | (refine And.intro ?_ ?_; focus (simp only [IntKind.wrap_i64, IntKind.wrap_u64, IntKind.wrap_u32]; omega)) | (refine And.intro ?_ ?_; focus (first | (simp only [tblOf_len, List.length_map, List.length_append, List.length_cons, List.length_nil, List.length_take, List.length_drop, List.length_replicate]; omega) | (simp only [tblOf_len, List.length_map, List.length_append, List.length_cons, List.length_nil, List.length_take, List.length_drop, List.length_replicate]; done)))))
      conv => whnf
      have hm : ¬ v ∈ l := fun h => by
        obtain ⟨j, hj, rfl⟩ := List.getElem_of_mem h
        exact hall j hj (by simp [List.getD, List.getElem?_eq_getElem hj])
      rw [decide_eq_false hm] at hK
      exact hK
def hasS : Vc.Spec := fun args hp _ K => ∃ (o : Bool) (l : List Int) (v : Int), args = [.slc 0 1 0 l.length, .v (.int .i64 v)] ∧ hp = [.row o 3 [.int .i64] (l.map irow)] ∧ l.length ≤ 1000000 ∧ K (.v (.bool (decide (v ∈ l)))) hp
theorem has_ok : SOK Tryd.prog 28 hasS := by
  refine TOK.weaken (runF_eq G0_ok mixed at28.1 at28.2 pf28_eq) fun args hp M K h => ?_
  obtain ⟨o, l, v, rfl, rfl, h1, h2⟩ := h
  exact has_run o M K l v h1 h2
noncomputable def specs1 : Nat → Option Vc.Trans := tget [(7, frameT numS), (28, frameT hasS)]
noncomputable def G1 : Nat → Option Vc.Trans := tabG specs1 (tget tab) 5
theorem G1_ok : GOK Tryd.prog G1 := tabG_ok (GOK.cons (frame_ok num_ok) (GOK.cons (frame_ok has_ok) .nil)) tab_ok 5
theorem irow_set (l : List Int) (x : Int) {r : Nat} (h : r < l.length) : (l.map irow).set (0 + (r : Int).toNat) (over ((l.map irow).getD (0 + (r : Int).toNat) []) 0 [.int .i64 x]) = (l.set r x).map irow := by
  rw [Nat.zero_add, Int.toNat_natCast, List.map_set]
  congr 1
  simp [List.getD, List.getElem?_map, List.getElem?_eq_getElem h, over, irow]
def renHp (o : Bool) (n : Int) (of fr : List Int) : List Ent := [cellsB o 52 [.v (.int .i64 n), .slc 1 1 0 of.length, .slc 2 1 0 fr.length], .row o 3 [.int .i64] (of.map irow), .row o 3 [.int .i64] (fr.map irow)]
def looseB (n : Int) (of fr : List Int) (x : Int) : Bool := decide (0 ≤ x ∧ x < n ∧ ¬ x ∈ fr ∧ ¬ x ∈ of)
theorem loose_run (o : Bool) (M : HL) (K : SV → List Ent → HL → Prop) (n : Int) (of fr : List Int) (x : Int) (ho : of.length ≤ 1000) (hf : fr.length ≤ 100000) (hK : K (.v (.bool (looseB n of fr x))) (renHp o n of fr) M) :
    runF G1 pf24 [.ptr 0 0 0 0, .v (.int .i64 x)] (renHp o n of fr) M K := by
  cases o
  all_goals
    repeat ((conv => whnf); (first | refine Cnd.yes ?_ | refine Cnd.no ?_ | refine And.intro rfl ?_ | refine And.intro (by omega) ?_ | (refine And.intro ?_ ?_; focus (simp only [IntKind.wrap_i64, IntKind.wrap_u64, IntKind.wrap_u32]; omega)) | (refine And.intro ?_ ?_; focus (first | (simp only [tblOf_len, List.length_map, List.length_append, List.length_cons, List.length_nil, List.length_take, List.length_drop, List.length_replicate]; omega) | (simp only [tblOf_len, List.length_map, List.length_append, List.length_cons, List.length_nil, List.length_take, List.length_drop, List.length_replicate]; done)))))
    conv => whnf
    by_cases h0 : 0 ≤ x
    · refine Cnd.tt (decide_eq_true h0) ?_
      repeat ((conv => whnf); (first | refine Cnd.yes ?_ | refine Cnd.no ?_ | refine And.intro rfl ?_ | refine And.intro (by omega) ?_ | (refine And.intro ?_ ?_; focus (simp only [IntKind.wrap_i64, IntKind.wrap_u64, IntKind.wrap_u32]; omega)) | (refine And.intro ?_ ?_; focus (first | (simp only [tblOf_len, List.length_map, List.length_append, List.length_cons, List.length_nil, List.length_take, List.length_drop, List.length_replicate]; omega) | (simp only [tblOf_len, List.length_map, List.length_append, List.length_cons, List.length_nil, List.length_take, List.length_drop, List.length_replicate]; done)))))
      conv => whnf
      by_cases h1 : x < n
      · refine Cnd.tt (decide_eq_true h1) ?_
        repeat ((conv => whnf); (first | refine Cnd.yes ?_ | refine Cnd.no ?_ | refine And.intro rfl ?_ | refine And.intro (by omega) ?_ | (refine And.intro ?_ ?_; focus (simp only [IntKind.wrap_i64, IntKind.wrap_u64, IntKind.wrap_u32]; omega)) | (refine And.intro ?_ ?_; focus (first | (simp only [tblOf_len, List.length_map, List.length_append, List.length_cons, List.length_nil, List.length_take, List.length_drop, List.length_replicate]; omega) | (simp only [tblOf_len, List.length_map, List.length_append, List.length_cons, List.length_nil, List.length_take, List.length_drop, List.length_replicate]; done)))))
        conv => whnf
        first
          | refine ⟨false, fr, x, rfl, rfl, by omega, ?_⟩
          | refine ⟨true, fr, x, rfl, rfl, by omega, ?_⟩
        repeat ((conv => whnf); (first | refine Cnd.yes ?_ | refine Cnd.no ?_ | refine And.intro rfl ?_ | refine And.intro (by omega) ?_ | (refine And.intro ?_ ?_; focus (simp only [IntKind.wrap_i64, IntKind.wrap_u64, IntKind.wrap_u32]; omega)) | (refine And.intro ?_ ?_; focus (first | (simp only [tblOf_len, List.length_map, List.length_append, List.length_cons, List.length_nil, List.length_take, List.length_drop, List.length_replicate]; omega) | (simp only [tblOf_len, List.length_map, List.length_append, List.length_cons, List.length_nil, List.length_take, List.length_drop, List.length_replicate]; done)))))
        conv => whnf
        by_cases h2 : x ∈ fr
        · rw [decide_eq_true h2]
          repeat ((conv => whnf); (first | refine Cnd.yes ?_ | refine Cnd.no ?_ | refine And.intro rfl ?_ | refine And.intro (by omega) ?_ | (refine And.intro ?_ ?_; focus (simp only [IntKind.wrap_i64, IntKind.wrap_u64, IntKind.wrap_u32]; omega)) | (refine And.intro ?_ ?_; focus (first | (simp only [tblOf_len, List.length_map, List.length_append, List.length_cons, List.length_nil, List.length_take, List.length_drop, List.length_replicate]; omega) | (simp only [tblOf_len, List.length_map, List.length_append, List.length_cons, List.length_nil, List.length_take, List.length_drop, List.length_replicate]; done)))))
          conv => whnf
          rw [show looseB n of fr x = false from decide_eq_false fun h => h.2.2.1 h2] at hK
          exact hK
        · rw [decide_eq_false h2]
          repeat ((conv => whnf); (first | refine Cnd.yes ?_ | refine Cnd.no ?_ | refine And.intro rfl ?_ | refine And.intro (by omega) ?_ | (refine And.intro ?_ ?_; focus (simp only [IntKind.wrap_i64, IntKind.wrap_u64, IntKind.wrap_u32]; omega)) | (refine And.intro ?_ ?_; focus (first | (simp only [tblOf_len, List.length_map, List.length_append, List.length_cons, List.length_nil, List.length_take, List.length_drop, List.length_replicate]; omega) | (simp only [tblOf_len, List.length_map, List.length_append, List.length_cons, List.length_nil, List.length_take, List.length_drop, List.length_replicate]; done)))))
          conv => whnf
          first
            | refine ⟨false, of, x, rfl, rfl, by omega, ?_⟩
            | refine ⟨true, of, x, rfl, rfl, by omega, ?_⟩
          repeat ((conv => whnf); (first | refine Cnd.yes ?_ | refine Cnd.no ?_ | refine And.intro rfl ?_ | refine And.intro (by omega) ?_ | (refine And.intro ?_ ?_; focus (simp only [IntKind.wrap_i64, IntKind.wrap_u64, IntKind.wrap_u32]; omega)) | (refine And.intro ?_ ?_; focus (first | (simp only [tblOf_len, List.length_map, List.length_append, List.length_cons, List.length_nil, List.length_take, List.length_drop, List.length_replicate]; omega) | (simp only [tblOf_len, List.length_map, List.length_append, List.length_cons, List.length_nil, List.length_take, List.length_drop, List.length_replicate]; done)))))
          conv => whnf
          rw [show looseB n of fr x = !decide (x ∈ of) from by simp [looseB, h0, h1, h2]] at hK
          exact hK
      · refine Cnd.ff (decide_eq_false h1) ?_
        repeat ((conv => whnf); (first | refine Cnd.yes ?_ | refine Cnd.no ?_ | refine And.intro rfl ?_ | refine And.intro (by omega) ?_ | (refine And.intro ?_ ?_; focus (simp only [IntKind.wrap_i64, IntKind.wrap_u64, IntKind.wrap_u32]; omega)) | (refine And.intro ?_ ?_; focus (first | (simp only [tblOf_len, List.length_map, List.length_append, List.length_cons, List.length_nil, List.length_take, List.length_drop, List.length_replicate]; omega) | (simp only [tblOf_len, List.length_map, List.length_append, List.length_cons, List.length_nil, List.length_take, List.length_drop, List.length_replicate]; done)))))
        conv => whnf
        rw [show looseB n of fr x = false from decide_eq_false fun h => h1 h.2.1] at hK
        exact hK
    · refine Cnd.ff (decide_eq_false h0) ?_
      repeat ((conv => whnf); (first | refine Cnd.yes ?_ | refine Cnd.no ?_ | refine And.intro rfl ?_ | refine And.intro (by omega) ?_ | (refine And.intro ?_ ?_; focus (simp only [IntKind.wrap_i64, IntKind.wrap_u64, IntKind.wrap_u32]; omega)) | (refine And.intro ?_ ?_; focus (first | (simp only [tblOf_len, List.length_map, List.length_append, List.length_cons, List.length_nil, List.length_take, List.length_drop, List.length_replicate]; omega) | (simp only [tblOf_len, List.length_map, List.length_append, List.length_cons, List.length_nil, List.length_take, List.length_drop, List.length_replicate]; done)))))
      conv => whnf
      rw [show looseB n of fr x = false from decide_eq_false fun h => h0 h.1] at hK
      exact hK
def looseS : Vc.Spec := fun args hp _ K => ∃ (o : Bool) (n : Int) (of fr : List Int) (x : Int), args = [.ptr 0 0 0 0, .v (.int .i64 x)] ∧ hp = renHp o n of fr ∧ of.length ≤ 1000 ∧ fr.length ≤ 100000 ∧ K (.v (.bool (looseB n of fr x))) (renHp o n of fr)
theorem loose_ok : SOK Tryd.prog 24 looseS := by
  refine TOK.weaken (runF_eq G1_ok mixed at24.1 at24.2 pf24_eq) fun args hp M K h => ?_
  obtain ⟨o, n, of, fr, x, rfl, rfl, h1, h2, h3⟩ := h
  exact loose_run o M K n of fr x h1 h2 h3
theorem takeno_run (M : HL) (K : SV → List Ent → HL → Prop) (n : Int) (of fr : List Int) (r : Int) (h : r < 1 ∨ 32 ≤ r ∨ fr = []) (hf : fr.length ≤ 100000) (hK : K (.tup [.v (.int .i64 0), .v (.int .i64 0), .v (.bool false)]) (renHp true n of fr) M) :
    runF G1 pf9 [.ptr 0 0 0 0, .v (.int .i64 r)] (renHp true n of fr) M fun v hp2 M2 => ∃ m v' hp', Wk (llen (renHp true n of fr)) m [v] hp2 [v'] hp' (K v' hp' M2) := by
  repeat ((conv => whnf); (first | refine Cnd.yes ?_ | refine Cnd.no ?_ | refine And.intro rfl ?_ | refine And.intro (by omega) ?_ | (refine And.intro ?_ ?_; focus (simp only [IntKind.wrap_i64, IntKind.wrap_u64, IntKind.wrap_u32]; omega)) | (refine And.intro ?_ ?_; focus (first | (simp only [tblOf_len, List.length_map, List.length_append, List.length_cons, List.length_nil, List.length_take, List.length_drop, List.length_replicate]; omega) | (simp only [tblOf_len, List.length_map, List.length_append, List.length_cons, List.length_nil, List.length_take, List.length_drop, List.length_replicate]; done)))))
  conv => whnf
  by_cases h1 : r < 1
  · refine Cnd.tt (decide_eq_true h1) ?_
    repeat ((conv => whnf); (first | refine Cnd.yes ?_ | refine Cnd.no ?_ | refine And.intro rfl ?_ | refine And.intro (by omega) ?_ | (refine And.intro ?_ ?_; focus (simp only [IntKind.wrap_i64, IntKind.wrap_u64, IntKind.wrap_u32]; omega)) | (refine And.intro ?_ ?_; focus (first | (simp only [tblOf_len, List.length_map, List.length_append, List.length_cons, List.length_nil, List.length_take, List.length_drop, List.length_replicate]; omega) | (simp only [tblOf_len, List.length_map, List.length_append, List.length_cons, List.length_nil, List.length_take, List.length_drop, List.length_replicate]; done)))))
    conv => whnf
    refine ⟨[0, 1, 2], .tup [.v (.int .i64 0), .v (.int .i64 0), .v (.bool false)], renHp true n of fr, ?_⟩
    repeat ((conv => whnf); (first | refine Cnd.yes ?_ | refine Cnd.no ?_ | refine And.intro rfl ?_ | refine And.intro (by omega) ?_ | (refine And.intro ?_ ?_; focus (simp only [IntKind.wrap_i64, IntKind.wrap_u64, IntKind.wrap_u32]; omega)) | (refine And.intro ?_ ?_; focus (first | (simp only [tblOf_len, List.length_map, List.length_append, List.length_cons, List.length_nil, List.length_take, List.length_drop, List.length_replicate]; omega) | (simp only [tblOf_len, List.length_map, List.length_append, List.length_cons, List.length_nil, List.length_take, List.length_drop, List.length_replicate]; done)))))
    conv => whnf
    exact hK
  · refine Cnd.ff (decide_eq_false h1) ?_
    repeat ((conv => whnf); (first | refine Cnd.yes ?_ | refine Cnd.no ?_ | refine And.intro rfl ?_ | refine And.intro (by omega) ?_ | (refine And.intro ?_ ?_; focus (simp only [IntKind.wrap_i64, IntKind.wrap_u64, IntKind.wrap_u32]; omega)) | (refine And.intro ?_ ?_; focus (first | (simp only [tblOf_len, List.length_map, List.length_append, List.length_cons, List.length_nil, List.length_take, List.length_drop, List.length_replicate]; omega) | (simp only [tblOf_len, List.length_map, List.length_append, List.length_cons, List.length_nil, List.length_take, List.length_drop, List.length_replicate]; done)))))
    conv => whnf
    by_cases h2 : 32 ≤ r
    · refine Cnd.tt (decide_eq_true (by omega)) ?_
      repeat ((conv => whnf); (first | refine Cnd.yes ?_ | refine Cnd.no ?_ | refine And.intro rfl ?_ | refine And.intro (by omega) ?_ | (refine And.intro ?_ ?_; focus (simp only [IntKind.wrap_i64, IntKind.wrap_u64, IntKind.wrap_u32]; omega)) | (refine And.intro ?_ ?_; focus (first | (simp only [tblOf_len, List.length_map, List.length_append, List.length_cons, List.length_nil, List.length_take, List.length_drop, List.length_replicate]; omega) | (simp only [tblOf_len, List.length_map, List.length_append, List.length_cons, List.length_nil, List.length_take, List.length_drop, List.length_replicate]; done)))))
      conv => whnf
      refine ⟨[0, 1, 2], .tup [.v (.int .i64 0), .v (.int .i64 0), .v (.bool false)], renHp true n of fr, ?_⟩
      repeat ((conv => whnf); (first | refine Cnd.yes ?_ | refine Cnd.no ?_ | refine And.intro rfl ?_ | refine And.intro (by omega) ?_ | (refine And.intro ?_ ?_; focus (simp only [IntKind.wrap_i64, IntKind.wrap_u64, IntKind.wrap_u32]; omega)) | (refine And.intro ?_ ?_; focus (first | (simp only [tblOf_len, List.length_map, List.length_append, List.length_cons, List.length_nil, List.length_take, List.length_drop, List.length_replicate]; omega) | (simp only [tblOf_len, List.length_map, List.length_append, List.length_cons, List.length_nil, List.length_take, List.length_drop, List.length_replicate]; done)))))
      conv => whnf
      exact hK
    · refine Cnd.ff (decide_eq_false (by omega)) ?_
      have h3 : fr = [] := by rcases h with h | h | h <;> first | omega | exact h
      subst h3
      repeat ((conv => whnf); (first | refine Cnd.yes ?_ | refine Cnd.no ?_ | refine And.intro rfl ?_ | refine And.intro (by omega) ?_ | (refine And.intro ?_ ?_; focus (simp only [IntKind.wrap_i64, IntKind.wrap_u64, IntKind.wrap_u32]; omega)) | (refine And.intro ?_ ?_; focus (first | (simp only [tblOf_len, List.length_map, List.length_append, List.length_cons, List.length_nil, List.length_take, List.length_drop, List.length_replicate]; omega) | (simp only [tblOf_len, List.length_map, List.length_append, List.length_cons, List.length_nil, List.length_take, List.length_drop, List.length_replicate]; done)))))
      conv => whnf
      refine ⟨[0, 1, 2], .tup [.v (.int .i64 0), .v (.int .i64 0), .v (.bool false)], renHp true n of [], ?_⟩
      repeat ((conv => whnf); (first | refine Cnd.yes ?_ | refine Cnd.no ?_ | refine And.intro rfl ?_ | refine And.intro (by omega) ?_ | (refine And.intro ?_ ?_; focus (simp only [IntKind.wrap_i64, IntKind.wrap_u64, IntKind.wrap_u32]; omega)) | (refine And.intro ?_ ?_; focus (first | (simp only [tblOf_len, List.length_map, List.length_append, List.length_cons, List.length_nil, List.length_take, List.length_drop, List.length_replicate]; omega) | (simp only [tblOf_len, List.length_map, List.length_append, List.length_cons, List.length_nil, List.length_take, List.length_drop, List.length_replicate]; done)))))
      conv => whnf
      exact hK
theorem take_run (M : HL) (K : SV → List Ent → HL → Prop) (n : Int) (of fr : List Int) (f : Int) (r : Nat) (h : 1 ≤ r ∧ r < 32) (ho : of.length = 32) (hf : fr.length ≤ 100000)
    (hK : K (.tup [.v (.int .i64 f), .v (.int .i64 (of.getD r 0)), .v (.bool true)]) [.cells 52 [.v (.int .i64 n), .slc 1 1 0 32, .slc 3 1 0 fr.length], .row true 3 [.int .i64] ((of.set r f).map irow), .gone, .row true 3 [.int .i64] (fr.map irow)] M) :
    runF G1 pf9 [.ptr 0 0 0 0, .v (.int .i64 r)] (renHp true n of (f :: fr)) M fun v hp2 M2 => ∃ m v' hp', Wk (llen (renHp true n of (f :: fr))) m [v] hp2 [v'] hp' (K v' hp' M2) := by
  have hfl : (f :: fr).length = fr.length + 1 := rfl
  unfold renHp
  rw [ho]
  repeat ((conv => whnf); (first | refine Cnd.yes ?_ | refine Cnd.no ?_ | refine And.intro rfl ?_ | refine And.intro (by omega) ?_ | (refine And.intro ?_ ?_; focus (simp only [IntKind.wrap_i64, IntKind.wrap_u64, IntKind.wrap_u32]; omega)) | (refine And.intro ?_ ?_; focus (first | (simp only [tblOf_len, List.length_map, List.length_append, List.length_cons, List.length_nil, List.length_take, List.length_drop, List.length_replicate]; omega) | (simp only [tblOf_len, List.length_map, List.length_append, List.length_cons, List.length_nil, List.length_take, List.length_drop, List.length_replicate]; done)))))
  conv => whnf
  refine Cnd.ff (decide_eq_false (by omega)) ?_
  repeat ((conv => whnf); (first | refine Cnd.yes ?_ | refine Cnd.no ?_ | refine And.intro rfl ?_ | refine And.intro (by omega) ?_ | (refine And.intro ?_ ?_; focus (simp only [IntKind.wrap_i64, IntKind.wrap_u64, IntKind.wrap_u32]; omega)) | (refine And.intro ?_ ?_; focus (first | (simp only [tblOf_len, List.length_map, List.length_append, List.length_cons, List.length_nil, List.length_take, List.length_drop, List.length_replicate]; omega) | (simp only [tblOf_len, List.length_map, List.length_append, List.length_cons, List.length_nil, List.length_take, List.length_drop, List.length_replicate]; done)))))
  conv => whnf
  refine Cnd.ff (decide_eq_false (by omega)) ?_
  repeat ((conv => whnf); (first | refine Cnd.yes ?_ | refine Cnd.no ?_ | refine And.intro rfl ?_ | refine And.intro (by omega) ?_ | (refine And.intro ?_ ?_; focus (simp only [IntKind.wrap_i64, IntKind.wrap_u64, IntKind.wrap_u32]; omega)) | (refine And.intro ?_ ?_; focus (first | (simp only [tblOf_len, List.length_map, List.length_append, List.length_cons, List.length_nil, List.length_take, List.length_drop, List.length_replicate]; omega) | (simp only [tblOf_len, List.length_map, List.length_append, List.length_cons, List.length_nil, List.length_take, List.length_drop, List.length_replicate]; done)))))
  conv => whnf
  have hlr : (((f :: fr).length : Int)).toNat - Int.toNat 1 = fr.length := by simp
  rw [hlr]
  have hget : toI (cellAt (of.map irow) (0 + (r : Int).toNat) 0) = of.getD r 0 := toI_i (by omega)
  rw [hget]
  have hrow : List.take 0 (List.drop 0 []) ++ List.take fr.length (List.drop (0 + Int.toNat 1) (List.map irow (f :: fr))) = List.map irow fr := by
    show List.take fr.length (fr.map irow) = _
    rw [List.take_of_length_le (by simp)]
  refine ⟨fun h0 => ?_, fun h0 => ⟨?_, ?_⟩⟩
  · repeat ((conv => whnf); (first | refine Cnd.yes ?_ | refine Cnd.no ?_ | refine And.intro rfl ?_ | refine And.intro (by omega) ?_ | (refine And.intro ?_ ?_; focus (simp only [IntKind.wrap_i64, IntKind.wrap_u64, IntKind.wrap_u32]; omega)) | (refine And.intro ?_ ?_; focus (first | (simp only [tblOf_len, List.length_map, List.length_append, List.length_cons, List.length_nil, List.length_take, List.length_drop, List.length_replicate]; omega) | (simp only [tblOf_len, List.length_map, List.length_append, List.length_cons, List.length_nil, List.length_take, List.length_drop, List.length_replicate]; done)))))
    conv => whnf
    refine ⟨[0, 1, 2, 4], .tup [.v (.int .i64 f), .v (.int .i64 (of.getD r 0)), .v (.bool true)], [.cells 52 [.v (.int .i64 n), .slc 1 1 0 32, .slc 3 1 0 fr.length], .row true 3 [.int .i64] ((of.set r f).map irow), .gone, .row true 3 [.int .i64] (fr.map irow)], ?_⟩
    repeat ((conv => whnf); (first | refine Cnd.yes ?_ | refine Cnd.no ?_ | refine And.intro rfl ?_ | refine And.intro (by omega) ?_ | (refine And.intro ?_ ?_; focus (simp only [IntKind.wrap_i64, IntKind.wrap_u64, IntKind.wrap_u32]; omega)) | (refine And.intro ?_ ?_; focus (first | (simp only [tblOf_len, List.length_map, List.length_append, List.length_cons, List.length_nil, List.length_take, List.length_drop, List.length_replicate]; omega) | (simp only [tblOf_len, List.length_map, List.length_append, List.length_cons, List.length_nil, List.length_take, List.length_drop, List.length_replicate]; done)))))
    conv => whnf
    refine ⟨irow_set of f (by omega), ?_⟩
    repeat ((conv => whnf); (first | refine Cnd.yes ?_ | refine Cnd.no ?_ | refine And.intro rfl ?_ | refine And.intro (by omega) ?_ | (refine And.intro ?_ ?_; focus (simp only [IntKind.wrap_i64, IntKind.wrap_u64, IntKind.wrap_u32]; omega)) | (refine And.intro ?_ ?_; focus (first | (simp only [tblOf_len, List.length_map, List.length_append, List.length_cons, List.length_nil, List.length_take, List.length_drop, List.length_replicate]; omega) | (simp only [tblOf_len, List.length_map, List.length_append, List.length_cons, List.length_nil, List.length_take, List.length_drop, List.length_replicate]; done)))))
    conv => whnf
    exact hK
  · repeat ((conv => whnf); (first | refine Cnd.yes ?_ | refine Cnd.no ?_ | refine And.intro rfl ?_ | refine And.intro (by omega) ?_ | (refine And.intro ?_ ?_; focus (simp only [IntKind.wrap_i64, IntKind.wrap_u64, IntKind.wrap_u32]; omega)) | (refine And.intro ?_ ?_; focus (first | (simp only [tblOf_len, List.length_map, List.length_append, List.length_cons, List.length_nil, List.length_take, List.length_drop, List.length_replicate]; omega) | (simp only [tblOf_len, List.length_map, List.length_append, List.length_cons, List.length_nil, List.length_take, List.length_drop, List.length_replicate]; done)))))
    conv => whnf
    refine ⟨[0, 1, 2, 3], .tup [.v (.int .i64 f), .v (.int .i64 (of.getD r 0)), .v (.bool true)], [.cells 52 [.v (.int .i64 n), .slc 1 1 0 32, .slc 3 1 0 fr.length], .row true 3 [.int .i64] ((of.set r f).map irow), .gone, .row true 3 [.int .i64] (fr.map irow)], ?_⟩
    repeat ((conv => whnf); (first | refine Cnd.yes ?_ | refine Cnd.no ?_ | refine And.intro rfl ?_ | refine And.intro (by omega) ?_ | (refine And.intro ?_ ?_; focus (simp only [IntKind.wrap_i64, IntKind.wrap_u64, IntKind.wrap_u32]; omega)) | (refine And.intro ?_ ?_; focus (first | (simp only [tblOf_len, List.length_map, List.length_append, List.length_cons, List.length_nil, List.length_take, List.length_drop, List.length_replicate]; omega) | (simp only [tblOf_len, List.length_map, List.length_append, List.length_cons, List.length_nil, List.length_take, List.length_drop, List.length_replicate]; done)))))
    conv => whnf
    refine ⟨irow_set of f (by omega), ?_⟩
    repeat ((conv => whnf); (first | refine Cnd.yes ?_ | refine Cnd.no ?_ | refine And.intro rfl ?_ | refine And.intro (by omega) ?_ | (refine And.intro ?_ ?_; focus (simp only [IntKind.wrap_i64, IntKind.wrap_u64, IntKind.wrap_u32]; omega)) | (refine And.intro ?_ ?_; focus (first | (simp only [tblOf_len, List.length_map, List.length_append, List.length_cons, List.length_nil, List.length_take, List.length_drop, List.length_replicate]; omega) | (simp only [tblOf_len, List.length_map, List.length_append, List.length_cons, List.length_nil, List.length_take, List.length_drop, List.length_replicate]; done)))))
    conv => whnf
    refine ⟨by rw [List.length_eq_zero_iff.1 h0]; rfl, ?_⟩
    repeat ((conv => whnf); (first | refine Cnd.yes ?_ | refine Cnd.no ?_ | refine And.intro rfl ?_ | refine And.intro (by omega) ?_ | (refine And.intro ?_ ?_; focus (simp only [IntKind.wrap_i64, IntKind.wrap_u64, IntKind.wrap_u32]; omega)) | (refine And.intro ?_ ?_; focus (first | (simp only [tblOf_len, List.length_map, List.length_append, List.length_cons, List.length_nil, List.length_take, List.length_drop, List.length_replicate]; omega) | (simp only [tblOf_len, List.length_map, List.length_append, List.length_cons, List.length_nil, List.length_take, List.length_drop, List.length_replicate]; done)))))
    conv => whnf
    exact hK
  · repeat ((conv => whnf); (first | refine Cnd.yes ?_ | refine Cnd.no ?_ | refine And.intro rfl ?_ | refine And.intro (by omega) ?_ | (refine And.intro ?_ ?_; focus (simp only [IntKind.wrap_i64, IntKind.wrap_u64, IntKind.wrap_u32]; omega)) | (refine And.intro ?_ ?_; focus (first | (simp only [tblOf_len, List.length_map, List.length_append, List.length_cons, List.length_nil, List.length_take, List.length_drop, List.length_replicate]; omega) | (simp only [tblOf_len, List.length_map, List.length_append, List.length_cons, List.length_nil, List.length_take, List.length_drop, List.length_replicate]; done)))))
    conv => whnf
    refine ⟨[0, 1, 2, 4], .tup [.v (.int .i64 f), .v (.int .i64 (of.getD r 0)), .v (.bool true)], [.cells 52 [.v (.int .i64 n), .slc 1 1 0 32, .slc 3 1 0 fr.length], .row true 3 [.int .i64] ((of.set r f).map irow), .gone, .row true 3 [.int .i64] (fr.map irow)], ?_⟩
    repeat ((conv => whnf); (first | refine Cnd.yes ?_ | refine Cnd.no ?_ | refine And.intro rfl ?_ | refine And.intro (by omega) ?_ | (refine And.intro ?_ ?_; focus (simp only [IntKind.wrap_i64, IntKind.wrap_u64, IntKind.wrap_u32]; omega)) | (refine And.intro ?_ ?_; focus (first | (simp only [tblOf_len, List.length_map, List.length_append, List.length_cons, List.length_nil, List.length_take, List.length_drop, List.length_replicate]; omega) | (simp only [tblOf_len, List.length_map, List.length_append, List.length_cons, List.length_nil, List.length_take, List.length_drop, List.length_replicate]; done)))))
    conv => whnf
    refine ⟨irow_set of f (by omega), ?_⟩
    repeat ((conv => whnf); (first | refine Cnd.yes ?_ | refine Cnd.no ?_ | refine And.intro rfl ?_ | refine And.intro (by omega) ?_ | (refine And.intro ?_ ?_; focus (simp only [IntKind.wrap_i64, IntKind.wrap_u64, IntKind.wrap_u32]; omega)) | (refine And.intro ?_ ?_; focus (first | (simp only [tblOf_len, List.length_map, List.length_append, List.length_cons, List.length_nil, List.length_take, List.length_drop, List.length_replicate]; omega) | (simp only [tblOf_len, List.length_map, List.length_append, List.length_cons, List.length_nil, List.length_take, List.length_drop, List.length_replicate]; done)))))
    conv => whnf
    exact hK
def takeS : Vc.Spec := fun args hp _ K => (∃ (n : Int) (of fr : List Int) (r : Int), args = [.ptr 0 0 0 0, .v (.int .i64 r)] ∧ hp = renHp true n of fr ∧ (r < 1 ∨ 32 ≤ r ∨ fr = []) ∧ fr.length ≤ 100000 ∧ K (.tup [.v (.int .i64 0), .v (.int .i64 0), .v (.bool false)]) (renHp true n of fr)) ∨
  (∃ (n : Int) (of fr : List Int) (f : Int) (r : Nat), args = [.ptr 0 0 0 0, .v (.int .i64 r)] ∧ hp = renHp true n of (f :: fr) ∧ (1 ≤ r ∧ r < 32) ∧ of.length = 32 ∧ fr.length ≤ 100000 ∧
    K (.tup [.v (.int .i64 f), .v (.int .i64 (of.getD r 0)), .v (.bool true)]) [.cells 52 [.v (.int .i64 n), .slc 1 1 0 32, .slc 3 1 0 fr.length], .row true 3 [.int .i64] ((of.set r f).map irow), .gone, .row true 3 [.int .i64] (fr.map irow)])
theorem take_ok : SOK Tryd.prog 9 takeS := by
  refine TOK.weaken (TOK.out (runF_eq G1_ok mixed at9.1 at9.2 pf9_eq)) fun args hp M K h => ?_
  rcases h with ⟨n, of, fr, r, rfl, rfl, h1, h2, h3⟩ | ⟨n, of, fr, f, r, rfl, rfl, h1, h2, h3, h4⟩
  · exact takeno_run M K n of fr r h1 h2 h3
  · exact take_run M K n of fr f r h1 h2 h3 h4
noncomputable def specs2 : Nat → Option Vc.Trans := tget [(7, frameT numS), (28, frameT hasS), (24, frameT looseS), (9, frameT takeS)]
noncomputable def G2 : Nat → Option Vc.Trans := tabG specs2 (tget tab) 5
theorem G2_ok : GOK Tryd.prog G2 := tabG_ok (GOK.cons (frame_ok num_ok) (GOK.cons (frame_ok has_ok) (GOK.cons (frame_ok loose_ok) (GOK.cons (frame_ok take_ok) .nil)))) tab_ok 5
def freeL (n : Int) (of : List Int) : List Int → List Int × Nat → List Int × Nat | [], x => x | a :: r, x => freeL n of r (if looseB n of x.1 a then (x.1 ++ [a], x.2 + 1) else x)
theorem freeL_app (n : Int) (of : List Int) (a b : List Int) (x : List Int × Nat) : freeL n of (a ++ b) x = freeL n of b (freeL n of a x) := by
  induction a generalizing x with
  | nil => rfl
  | cons i a ih => exact ih _
theorem freeL_len (n : Int) (of : List Int) (a : List Int) (x : List Int × Nat) : (freeL n of a x).1.length ≤ x.1.length + a.length ∧ (freeL n of a x).2 ≤ x.2 + a.length ∧ ((freeL n of a x).2 = x.2 → (freeL n of a x).1 = x.1) ∧ x.2 ≤ (freeL n of a x).2 := by
  induction a generalizing x with
  | nil => simp [freeL]
  | cons i a ih =>
    rw [freeL]
    split
    · have := ih (x.1 ++ [i], x.2 + 1)
      simp only [List.length_append, List.length_cons, List.length_nil] at this ⊢
      omega
    · have := ih x
      simp only [List.length_cons]
      refine ⟨by omega, by omega, this.2.2.1, by omega⟩
theorem happ (l : List Int) (x : Int) : List.take l.length (List.drop 0 (List.map irow l)) ++ List.take 1 (List.drop 0 [[Value.int IntKind.i64 x]]) = List.map irow (l ++ [x]) := by
  rw [List.drop_zero, List.take_of_length_le (by simp)]
  simp [irow]
def fA (n : Int) (of fr : List Int) (e : TypeId) (o : Bool) (nm : List Int) : List Ent := [.cells 52 [.v (.int .i64 n), .slc 1 1 0 of.length, .slc 2 1 0 fr.length], .row true 3 [.int .i64] (of.map irow), .row true 3 [.int .i64] (fr.map irow), .row o e [.int .i64] (nm.map irow)]
def fB (n : Int) (of fr : List Int) (e : TypeId) (o : Bool) (nm : List Int) : List Ent := [.cells 52 [.v (.int .i64 n), .slc 1 1 0 of.length, .slc 4 1 0 fr.length], .row true 3 [.int .i64] (of.map irow), .gone, .row o e [.int .i64] (nm.map irow), .row true 3 [.int .i64] (fr.map irow)]
set_option maxHeartbeats 4000000 in
theorem free_run (M : HL) (K : SV → List Ent → HL → Prop) (n : Int) (of fr : List Int) (e : TypeId) (o : Bool) (nm : List Int) (ho : of.length ≤ 1000) (hf : fr.length ≤ 50000) (hn : nm.length ≤ 100)
    (hK : if (freeL n of nm (fr, 0)).2 = 0 then K (.v (.int .i64 0)) (fA n of fr e o nm) M else K (.v (.int .i64 ((freeL n of nm (fr, 0)).2 : Nat))) (fB n of (freeL n of nm (fr, 0)).1 e o nm) M) :
    runF G2 pf11 [.ptr 0 0 0 0, .slc 3 1 0 nm.length] (fA n of fr e o nm) M K := by
  repeat ((conv => whnf); (first | refine Cnd.yes ?_ | refine Cnd.no ?_ | refine And.intro rfl ?_ | refine And.intro (by omega) ?_ | (refine And.intro ?_ ?_; focus (simp only [IntKind.wrap_i64, IntKind.wrap_u64, IntKind.wrap_u32]; omega)) | (refine And.intro ?_ ?_; focus (first | (simp only [tblOf_len, List.length_map, List.length_append, List.length_cons, List.length_nil, List.length_take, List.length_drop, List.length_replicate]; omega) | (simp only [tblOf_len, List.length_map, List.length_append, List.length_cons, List.length_nil, List.length_take, List.length_drop, List.length_replicate]; done)))))
  conv => whnf
  refine ⟨fun cnt tm hp M' => ∃ i : Nat, i ≤ nm.length ∧ cnt = nm.length - i ∧ M' = M ∧ tmkK 31 0 [(0, .ptr 0 0 0 0), (5, .v (.int .i64 ((freeL n of (nm.take i) (fr, 0)).2 : Nat))), (8, .slc 3 1 0 nm.length), (9, .v (.int .i64 nm.length)), (10, .v (.int .i64 i))] (fun l => tm = l) ∧
      (((freeL n of (nm.take i) (fr, 0)).2 = 0 ∧ hp = fA n of fr e o nm) ∨ ((freeL n of (nm.take i) (fr, 0)).2 ≠ 0 ∧ hp = fB n of (freeL n of (nm.take i) (fr, 0)).1 e o nm)),
    ⟨nm.length, [0, 1, 2, 3], tmk 31 0 [(0, .ptr 0 0 0 0), (5, .v (.int .i64 ((freeL n of (nm.take 0) (fr, 0)).2 : Nat))), (8, .slc 3 1 0 nm.length), (9, .v (.int .i64 nm.length)), (10, .v (.int .i64 (0 : Nat)))], fA n of fr e o nm, ?_⟩, ?_⟩
  · repeat ((conv => whnf); (first | refine Cnd.yes ?_ | refine Cnd.no ?_ | refine And.intro rfl ?_ | refine And.intro (by omega) ?_ | (refine And.intro ?_ ?_; focus (simp only [IntKind.wrap_i64, IntKind.wrap_u64, IntKind.wrap_u32]; omega)) | (refine And.intro ?_ ?_; focus (first | (simp only [tblOf_len, List.length_map, List.length_append, List.length_cons, List.length_nil, List.length_take, List.length_drop, List.length_replicate]; omega) | (simp only [tblOf_len, List.length_map, List.length_append, List.length_cons, List.length_nil, List.length_take, List.length_drop, List.length_replicate]; done)))))
    conv => whnf
    exact ⟨0, by omega, by omega, rfl, (tmkK_eq _ _ _ _).mpr rfl, .inl ⟨rfl, rfl⟩⟩
  · rintro cnt tm hp M' ⟨i, hi, rfl, rfl, htm, hcase⟩
    conv at htm => whnf
    subst htm
    have hlen := freeL_len n of (nm.take i) (fr, 0)
    simp only [List.length_take] at hlen
    have hx : ∀ (h : i < nm.length), freeL n of (nm.take (i + 1)) (fr, 0) = if looseB n of (freeL n of (nm.take i) (fr, 0)).1 (nm.getD i 0) then ((freeL n of (nm.take i) (fr, 0)).1 ++ [nm.getD i 0], (freeL n of (nm.take i) (fr, 0)).2 + 1) else freeL n of (nm.take i) (fr, 0) := by
      intro h
      have hx : nm.take (i + 1) = nm.take i ++ [nm.getD i 0] := by
        rw [List.take_succ_eq_append_getElem (by omega)]
        simp [List.getD, List.getElem?_eq_getElem h]
      rw [hx, freeL_app]
      rfl
    rcases hcase with ⟨hk0, rfl⟩ | ⟨hk0, rfl⟩
    · repeat ((conv => whnf); (first | refine Cnd.yes ?_ | refine Cnd.no ?_ | refine And.intro rfl ?_ | refine And.intro (by omega) ?_ | (refine And.intro ?_ ?_; focus (simp only [IntKind.wrap_i64, IntKind.wrap_u64, IntKind.wrap_u32]; omega)) | (refine And.intro ?_ ?_; focus (first | (simp only [tblOf_len, List.length_map, List.length_append, List.length_cons, List.length_nil, List.length_take, List.length_drop, List.length_replicate]; omega) | (simp only [tblOf_len, List.length_map, List.length_append, List.length_cons, List.length_nil, List.length_take, List.length_drop, List.length_replicate]; done)))))
      conv => whnf
      refine Cnd.mk (fun hlt => ?_) fun hge => ?_
      · have hin : i < nm.length := by have := of_decide_eq_true hlt; omega
        have hx := hx hin
        have hfr := hlen.2.2.1 hk0
        rw [hk0] at hlen
        generalize hX : freeL n of (nm.take i) (fr, 0) = X at *
        obtain ⟨fr', k⟩ := X
        simp only at hfr hk0 hlen hx
        subst hfr hk0
        repeat ((conv => whnf); (first | refine Cnd.yes ?_ | refine Cnd.no ?_ | refine And.intro rfl ?_ | refine And.intro (by omega) ?_ | (refine And.intro ?_ ?_; focus (simp only [IntKind.wrap_i64, IntKind.wrap_u64, IntKind.wrap_u32]; omega)) | (refine And.intro ?_ ?_; focus (first | (simp only [tblOf_len, List.length_map, List.length_append, List.length_cons, List.length_nil, List.length_take, List.length_drop, List.length_replicate]; omega) | (simp only [tblOf_len, List.length_map, List.length_append, List.length_cons, List.length_nil, List.length_take, List.length_drop, List.length_replicate]; done)))))
        conv => whnf
        rw [toI_i hin]
        refine ⟨true, n, of, fr', nm.getD i 0, rfl, rfl, by omega, by omega, ?_⟩
        repeat ((conv => whnf); (first | refine Cnd.yes ?_ | refine Cnd.no ?_ | refine And.intro rfl ?_ | refine And.intro (by omega) ?_ | (refine And.intro ?_ ?_; focus (simp only [IntKind.wrap_i64, IntKind.wrap_u64, IntKind.wrap_u32]; omega)) | (refine And.intro ?_ ?_; focus (first | (simp only [tblOf_len, List.length_map, List.length_append, List.length_cons, List.length_nil, List.length_take, List.length_drop, List.length_replicate]; omega) | (simp only [tblOf_len, List.length_map, List.length_append, List.length_cons, List.length_nil, List.length_take, List.length_drop, List.length_replicate]; done)))))
        conv => whnf
        refine Cnd.mk (fun hlo => ?_) fun hlo => ?_
        · repeat ((conv => whnf); (first | refine Cnd.yes ?_ | refine Cnd.no ?_ | refine And.intro rfl ?_ | refine And.intro (by omega) ?_ | (refine And.intro ?_ ?_; focus (simp only [IntKind.wrap_i64, IntKind.wrap_u64, IntKind.wrap_u32]; omega)) | (refine And.intro ?_ ?_; focus (first | (simp only [tblOf_len, List.length_map, List.length_append, List.length_cons, List.length_nil, List.length_take, List.length_drop, List.length_replicate]; omega) | (simp only [tblOf_len, List.length_map, List.length_append, List.length_cons, List.length_nil, List.length_take, List.length_drop, List.length_replicate]; done)))))
          conv => whnf
          rw [if_pos hlo] at hx
          refine ⟨nm.length - (i + 1), [0, 1, 2, 3, 5], tmk 31 0 [(0, .ptr 0 0 0 0), (5, .v (.int .i64 (1 : Nat))), (8, .slc 3 1 0 nm.length), (9, .v (.int .i64 nm.length)), (10, .v (.int .i64 (i + 1 : Nat)))], fB n of (fr' ++ [nm.getD i 0]) e o nm, by omega, ?_⟩
          repeat ((conv => whnf); (first | refine Cnd.yes ?_ | refine Cnd.no ?_ | refine And.intro rfl ?_ | refine And.intro (by omega) ?_ | (refine And.intro ?_ ?_; focus (simp only [IntKind.wrap_i64, IntKind.wrap_u64, IntKind.wrap_u32]; omega)) | (refine And.intro ?_ ?_; focus (first | (simp only [tblOf_len, List.length_map, List.length_append, List.length_cons, List.length_nil, List.length_take, List.length_drop, List.length_replicate]; omega) | (simp only [tblOf_len, List.length_map, List.length_append, List.length_cons, List.length_nil, List.length_take, List.length_drop, List.length_replicate]; done)))))
          conv => whnf
          refine ⟨happ fr' _, ?_⟩
          repeat ((conv => whnf); (first | refine Cnd.yes ?_ | refine Cnd.no ?_ | refine And.intro rfl ?_ | refine And.intro (by omega) ?_ | (refine And.intro ?_ ?_; focus (simp only [IntKind.wrap_i64, IntKind.wrap_u64, IntKind.wrap_u32]; omega)) | (refine And.intro ?_ ?_; focus (first | (simp only [tblOf_len, List.length_map, List.length_append, List.length_cons, List.length_nil, List.length_take, List.length_drop, List.length_replicate]; omega) | (simp only [tblOf_len, List.length_map, List.length_append, List.length_cons, List.length_nil, List.length_take, List.length_drop, List.length_replicate]; done)))))
          conv => whnf
          exact ⟨i + 1, by omega, rfl, rfl, (tmkK_eq _ _ _ _).mpr (by rw [hx]), .inr ⟨by rw [hx]; simp, by rw [hx]⟩⟩
        · repeat ((conv => whnf); (first | refine Cnd.yes ?_ | refine Cnd.no ?_ | refine And.intro rfl ?_ | refine And.intro (by omega) ?_ | (refine And.intro ?_ ?_; focus (simp only [IntKind.wrap_i64, IntKind.wrap_u64, IntKind.wrap_u32]; omega)) | (refine And.intro ?_ ?_; focus (first | (simp only [tblOf_len, List.length_map, List.length_append, List.length_cons, List.length_nil, List.length_take, List.length_drop, List.length_replicate]; omega) | (simp only [tblOf_len, List.length_map, List.length_append, List.length_cons, List.length_nil, List.length_take, List.length_drop, List.length_replicate]; done)))))
          conv => whnf
          rw [if_neg (by rw [hlo]; decide)] at hx
          refine ⟨nm.length - (i + 1), [0, 1, 2, 3], tmk 31 0 [(0, .ptr 0 0 0 0), (5, .v (.int .i64 (0 : Nat))), (8, .slc 3 1 0 nm.length), (9, .v (.int .i64 nm.length)), (10, .v (.int .i64 (i + 1 : Nat)))], fA n of fr' e o nm, by omega, ?_⟩
          repeat ((conv => whnf); (first | refine Cnd.yes ?_ | refine Cnd.no ?_ | refine And.intro rfl ?_ | refine And.intro (by omega) ?_ | (refine And.intro ?_ ?_; focus (simp only [IntKind.wrap_i64, IntKind.wrap_u64, IntKind.wrap_u32]; omega)) | (refine And.intro ?_ ?_; focus (first | (simp only [tblOf_len, List.length_map, List.length_append, List.length_cons, List.length_nil, List.length_take, List.length_drop, List.length_replicate]; omega) | (simp only [tblOf_len, List.length_map, List.length_append, List.length_cons, List.length_nil, List.length_take, List.length_drop, List.length_replicate]; done)))))
          conv => whnf
          exact ⟨i + 1, by omega, rfl, rfl, (tmkK_eq _ _ _ _).mpr (by rw [hx]), .inl ⟨by rw [hx], rfl⟩⟩
      · have hin : i = nm.length := by have := of_decide_eq_false hge; omega
        subst hin
        rw [List.take_length] at hk0
        rw [if_pos hk0] at hK
        repeat ((conv => whnf); (first | refine Cnd.yes ?_ | refine Cnd.no ?_ | refine And.intro rfl ?_ | refine And.intro (by omega) ?_ | (refine And.intro ?_ ?_; focus (simp only [IntKind.wrap_i64, IntKind.wrap_u64, IntKind.wrap_u32]; omega)) | (refine And.intro ?_ ?_; focus (first | (simp only [tblOf_len, List.length_map, List.length_append, List.length_cons, List.length_nil, List.length_take, List.length_drop, List.length_replicate]; omega) | (simp only [tblOf_len, List.length_map, List.length_append, List.length_cons, List.length_nil, List.length_take, List.length_drop, List.length_replicate]; done)))))
        conv => whnf
        rw [List.take_length, hk0]
        exact hK
    · repeat ((conv => whnf); (first | refine Cnd.yes ?_ | refine Cnd.no ?_ | refine And.intro rfl ?_ | refine And.intro (by omega) ?_ | (refine And.intro ?_ ?_; focus (simp only [IntKind.wrap_i64, IntKind.wrap_u64, IntKind.wrap_u32]; omega)) | (refine And.intro ?_ ?_; focus (first | (simp only [tblOf_len, List.length_map, List.length_append, List.length_cons, List.length_nil, List.length_take, List.length_drop, List.length_replicate]; omega) | (simp only [tblOf_len, List.length_map, List.length_append, List.length_cons, List.length_nil, List.length_take, List.length_drop, List.length_replicate]; done)))))
      conv => whnf
      refine Cnd.mk (fun hlt => ?_) fun hge => ?_
      · have hin : i < nm.length := by have := of_decide_eq_true hlt; omega
        have hx := hx hin
        generalize hX : freeL n of (nm.take i) (fr, 0) = X at *
        obtain ⟨fr', k⟩ := X
        simp only at hk0 hlen hx
        repeat ((conv => whnf); (first | refine Cnd.yes ?_ | refine Cnd.no ?_ | refine And.intro rfl ?_ | refine And.intro (by omega) ?_ | (refine And.intro ?_ ?_; focus (simp only [IntKind.wrap_i64, IntKind.wrap_u64, IntKind.wrap_u32]; omega)) | (refine And.intro ?_ ?_; focus (first | (simp only [tblOf_len, List.length_map, List.length_append, List.length_cons, List.length_nil, List.length_take, List.length_drop, List.length_replicate]; omega) | (simp only [tblOf_len, List.length_map, List.length_append, List.length_cons, List.length_nil, List.length_take, List.length_drop, List.length_replicate]; done)))))
        conv => whnf
        rw [toI_i hin]
        refine ⟨true, n, of, fr', nm.getD i 0, rfl, rfl, by omega, by omega, ?_⟩
        repeat ((conv => whnf); (first | refine Cnd.yes ?_ | refine Cnd.no ?_ | refine And.intro rfl ?_ | refine And.intro (by omega) ?_ | (refine And.intro ?_ ?_; focus (simp only [IntKind.wrap_i64, IntKind.wrap_u64, IntKind.wrap_u32]; omega)) | (refine And.intro ?_ ?_; focus (first | (simp only [tblOf_len, List.length_map, List.length_append, List.length_cons, List.length_nil, List.length_take, List.length_drop, List.length_replicate]; omega) | (simp only [tblOf_len, List.length_map, List.length_append, List.length_cons, List.length_nil, List.length_take, List.length_drop, List.length_replicate]; done)))))
        conv => whnf
        refine Cnd.mk (fun hlo => ?_) fun hlo => ?_
        · repeat ((conv => whnf); (first | refine Cnd.yes ?_ | refine Cnd.no ?_ | refine And.intro rfl ?_ | refine And.intro (by omega) ?_ | (refine And.intro ?_ ?_; focus (simp only [IntKind.wrap_i64, IntKind.wrap_u64, IntKind.wrap_u32]; omega)) | (refine And.intro ?_ ?_; focus (first | (simp only [tblOf_len, List.length_map, List.length_append, List.length_cons, List.length_nil, List.length_take, List.length_drop, List.length_replicate]; omega) | (simp only [tblOf_len, List.length_map, List.length_append, List.length_cons, List.length_nil, List.length_take, List.length_drop, List.length_replicate]; done)))))
          conv => whnf
          rw [if_pos hlo] at hx
          refine ⟨nm.length - (i + 1), [0, 1, 2, 3, 6], tmk 31 0 [(0, .ptr 0 0 0 0), (5, .v (.int .i64 (k + 1 : Nat))), (8, .slc 3 1 0 nm.length), (9, .v (.int .i64 nm.length)), (10, .v (.int .i64 (i + 1 : Nat)))], fB n of (fr' ++ [nm.getD i 0]) e o nm, by omega, ?_⟩
          repeat ((conv => whnf); (first | refine Cnd.yes ?_ | refine Cnd.no ?_ | refine And.intro rfl ?_ | refine And.intro (by omega) ?_ | (refine And.intro ?_ ?_; focus (simp only [IntKind.wrap_i64, IntKind.wrap_u64, IntKind.wrap_u32]; omega)) | (refine And.intro ?_ ?_; focus (first | (simp only [tblOf_len, List.length_map, List.length_append, List.length_cons, List.length_nil, List.length_take, List.length_drop, List.length_replicate]; omega) | (simp only [tblOf_len, List.length_map, List.length_append, List.length_cons, List.length_nil, List.length_take, List.length_drop, List.length_replicate]; done)))))
          conv => whnf
          refine ⟨happ fr' _, ?_⟩
          repeat ((conv => whnf); (first | refine Cnd.yes ?_ | refine Cnd.no ?_ | refine And.intro rfl ?_ | refine And.intro (by omega) ?_ | (refine And.intro ?_ ?_; focus (simp only [IntKind.wrap_i64, IntKind.wrap_u64, IntKind.wrap_u32]; omega)) | (refine And.intro ?_ ?_; focus (first | (simp only [tblOf_len, List.length_map, List.length_append, List.length_cons, List.length_nil, List.length_take, List.length_drop, List.length_replicate]; omega) | (simp only [tblOf_len, List.length_map, List.length_append, List.length_cons, List.length_nil, List.length_take, List.length_drop, List.length_replicate]; done)))))
          conv => whnf
          exact ⟨i + 1, by omega, rfl, rfl, (tmkK_eq _ _ _ _).mpr (by rw [hx]), .inr ⟨by rw [hx]; simp, by rw [hx]⟩⟩
        · repeat ((conv => whnf); (first | refine Cnd.yes ?_ | refine Cnd.no ?_ | refine And.intro rfl ?_ | refine And.intro (by omega) ?_ | (refine And.intro ?_ ?_; focus (simp only [IntKind.wrap_i64, IntKind.wrap_u64, IntKind.wrap_u32]; omega)) | (refine And.intro ?_ ?_; focus (first | (simp only [tblOf_len, List.length_map, List.length_append, List.length_cons, List.length_nil, List.length_take, List.length_drop, List.length_replicate]; omega) | (simp only [tblOf_len, List.length_map, List.length_append, List.length_cons, List.length_nil, List.length_take, List.length_drop, List.length_replicate]; done)))))
          conv => whnf
          rw [if_neg (by rw [hlo]; decide)] at hx
          refine ⟨nm.length - (i + 1), [0, 1, 2, 3, 4], tmk 31 0 [(0, .ptr 0 0 0 0), (5, .v (.int .i64 (k : Nat))), (8, .slc 3 1 0 nm.length), (9, .v (.int .i64 nm.length)), (10, .v (.int .i64 (i + 1 : Nat)))], fB n of fr' e o nm, by omega, ?_⟩
          repeat ((conv => whnf); (first | refine Cnd.yes ?_ | refine Cnd.no ?_ | refine And.intro rfl ?_ | refine And.intro (by omega) ?_ | (refine And.intro ?_ ?_; focus (simp only [IntKind.wrap_i64, IntKind.wrap_u64, IntKind.wrap_u32]; omega)) | (refine And.intro ?_ ?_; focus (first | (simp only [tblOf_len, List.length_map, List.length_append, List.length_cons, List.length_nil, List.length_take, List.length_drop, List.length_replicate]; omega) | (simp only [tblOf_len, List.length_map, List.length_append, List.length_cons, List.length_nil, List.length_take, List.length_drop, List.length_replicate]; done)))))
          conv => whnf
          exact ⟨i + 1, by omega, rfl, rfl, (tmkK_eq _ _ _ _).mpr (by rw [hx]), .inr ⟨by rw [hx]; exact hk0, by rw [hx]⟩⟩
      · have hin : i = nm.length := by have := of_decide_eq_false hge; omega
        subst hin
        rw [List.take_length] at hk0
        rw [if_neg hk0] at hK
        repeat ((conv => whnf); (first | refine Cnd.yes ?_ | refine Cnd.no ?_ | refine And.intro rfl ?_ | refine And.intro (by omega) ?_ | (refine And.intro ?_ ?_; focus (simp only [IntKind.wrap_i64, IntKind.wrap_u64, IntKind.wrap_u32]; omega)) | (refine And.intro ?_ ?_; focus (first | (simp only [tblOf_len, List.length_map, List.length_append, List.length_cons, List.length_nil, List.length_take, List.length_drop, List.length_replicate]; omega) | (simp only [tblOf_len, List.length_map, List.length_append, List.length_cons, List.length_nil, List.length_take, List.length_drop, List.length_replicate]; done)))))
        conv => whnf
        rw [List.take_length]
        exact hK
end Go.Proofs.YtlbjheknhoigpaaDoor
