/-
  The buffer: New, Push, Done, Head, Pop, walked; their contracts.
-/
import Derived.Test.YthmofpilphfkcaaDoorCa
import Derived.Test.YthmofpilphfkcaaDoorVcu
namespace Go.Proofs.YthmofpilphfkcaaDoor
open Go Go.Vc
set_option maxRecDepth 100000
set_option linter.unusedSimpArgs false
set_option linter.unusedVariables false
set_option maxHeartbeats 4000000
def orow (x : Int × Bool) : List Value := [.int .i64 x.1, .bool x.2]
def robHp (o : Bool) (n nx : Int) (L post : List (Int × Bool)) : List Ent := [cellsB o 56 [.v (.int .i64 n), .v (.int .i64 nx), .slc 1 2 0 L.length], .row o 58 [.int .i64, .bool] ((L ++ post).map orow)]
theorem number_run (M : HL) (K : SV → List Ent → HL → Prop) (hp : List Ent) (x b : Int) (hb : 0 < b) (hb2 : b ≤ 1000000) (hK : K (.v (.int .i64 (x % b))) hp M) : runF G0 pf7 [.v (.int .i64 x), .v (.int .i64 b)] hp M K := by
  have h1 : -b < Int.tmod x b := Int.lt_tmod_of_pos x hb
  have h2 : Int.tmod x b < b := Int.tmod_lt_of_pos x hb
  have e : IntKind.i64.wrap (Int.tmod x b + b) = Int.tmod x b + b := by rw [IntKind.wrap_i64]; omega
  have e2 : Int.tmod (Int.tmod x b + b) b = x % b := by
    rw [Int.tmod_eq_emod_of_nonneg (by omega), Int.add_emod_right]
    have := Int.mul_tdiv_add_tmod x b
    conv => rhs; rw [← this]
    rw [Int.add_comm, Int.add_mul_emod_self_left]
  repeat ((conv => whnf); (first | refine Cnd.yes ?_ | refine Cnd.no ?_ | refine And.intro rfl ?_ | refine And.intro (by omega) ?_ | (refine And.intro ?_ ?_; focus (simp only [IntKind.wrap_i64, IntKind.wrap_u64, IntKind.wrap_u32]; omega)) | (refine And.intro ?_ ?_; focus (simp only [zl1, zl2, zl3, zl4, zl5, zl6, zl7, zl8, zl9] <;> omega))))
  conv => whnf
  rw [e]
  repeat ((conv => whnf); (first | refine Cnd.yes ?_ | refine Cnd.no ?_ | refine And.intro rfl ?_ | refine And.intro (by omega) ?_ | (refine And.intro ?_ ?_; focus (simp only [IntKind.wrap_i64, IntKind.wrap_u64, IntKind.wrap_u32]; omega)) | (refine And.intro ?_ ?_; focus (simp only [zl1, zl2, zl3, zl4, zl5, zl6, zl7, zl8, zl9] <;> omega))))
  conv => whnf
  rw [e2]
  exact hK
theorem push_run (M : HL) (K : SV → List Ent → HL → Prop) (n nx : Int) (L post : List (Int × Bool)) (hl : L.length ≤ 1000) (hx : nx < 9000000000000000000) (hx0 : 0 ≤ nx)
    (hK : if (L.length : Int) < n then K (.tup [.v (.int .i64 nx), .v (.bool true)]) [.cells 56 [.v (.int .i64 n), .v (.int .i64 (nx + 1)), .slc 2 2 0 (L.length + 1)], .gone, .row true 58 [.int .i64, .bool] ((L ++ [(nx, false)]).map orow)] M
      else K (.tup [.v (.int .i64 0), .v (.bool false)]) (robHp true n nx L post) M) :
    runF G0 pf9 [.ptr 0 0 0 0] (robHp true n nx L post) M fun v hp2 M2 => ∃ m v' hp', Wk (llen (robHp true n nx L post)) m [v] hp2 [v'] hp' (K v' hp' M2) := by
  repeat ((conv => whnf); (first | refine Cnd.yes ?_ | refine Cnd.no ?_ | refine And.intro rfl ?_ | refine And.intro (by omega) ?_ | (refine And.intro ?_ ?_; focus (simp only [IntKind.wrap_i64, IntKind.wrap_u64, IntKind.wrap_u32]; omega)) | (refine And.intro ?_ ?_; focus (simp only [zl1, zl2, zl3, zl4, zl5, zl6, zl7, zl8, zl9] <;> omega))))
  conv => whnf
  by_cases h : (L.length : Int) < n
  · rw [if_pos h] at hK
    refine Cnd.ff (decide_eq_false (by omega)) ?_
    repeat ((conv => whnf); (first | refine Cnd.yes ?_ | refine Cnd.no ?_ | refine And.intro rfl ?_ | refine And.intro (by omega) ?_ | (refine And.intro ?_ ?_; focus (simp only [IntKind.wrap_i64, IntKind.wrap_u64, IntKind.wrap_u32]; omega)) | (refine And.intro ?_ ?_; focus (simp only [zl1, zl2, zl3, zl4, zl5, zl6, zl7, zl8, zl9] <;> omega))))
    conv => whnf
    refine ⟨[0, 1, 3], .tup [.v (.int .i64 nx), .v (.bool true)], [.cells 56 [.v (.int .i64 n), .v (.int .i64 (nx + 1)), .slc 2 2 0 (L.length + 1)], .gone, .row true 58 [.int .i64, .bool] ((L ++ [(nx, false)]).map orow)], ?_⟩
    repeat ((conv => whnf); (first | refine Cnd.yes ?_ | refine Cnd.no ?_ | refine And.intro rfl ?_ | refine And.intro (by omega) ?_ | (refine And.intro ?_ ?_; focus (simp only [IntKind.wrap_i64, IntKind.wrap_u64, IntKind.wrap_u32]; omega)) | (refine And.intro ?_ ?_; focus (simp only [zl1, zl2, zl3, zl4, zl5, zl6, zl7, zl8, zl9] <;> omega))))
    conv => whnf
    refine ⟨by simp [orow, List.take_append] <;> rw [List.take_of_length_le (by simp)], ?_⟩
    repeat ((conv => whnf); (first | refine Cnd.yes ?_ | refine Cnd.no ?_ | refine And.intro rfl ?_ | refine And.intro (by omega) ?_ | (refine And.intro ?_ ?_; focus (simp only [IntKind.wrap_i64, IntKind.wrap_u64, IntKind.wrap_u32]; omega)) | (refine And.intro ?_ ?_; focus (simp only [zl1, zl2, zl3, zl4, zl5, zl6, zl7, zl8, zl9] <;> omega))))
    conv => whnf
    exact hK
  · rw [if_neg h] at hK
    refine Cnd.tt (decide_eq_true (by omega)) ?_
    repeat ((conv => whnf); (first | refine Cnd.yes ?_ | refine Cnd.no ?_ | refine And.intro rfl ?_ | refine And.intro (by omega) ?_ | (refine And.intro ?_ ?_; focus (simp only [IntKind.wrap_i64, IntKind.wrap_u64, IntKind.wrap_u32]; omega)) | (refine And.intro ?_ ?_; focus (simp only [zl1, zl2, zl3, zl4, zl5, zl6, zl7, zl8, zl9] <;> omega))))
    conv => whnf
    refine ⟨[0, 1], .tup [.v (.int .i64 0), .v (.bool false)], robHp true n nx L post, ?_⟩
    repeat ((conv => whnf); (first | refine Cnd.yes ?_ | refine Cnd.no ?_ | refine And.intro rfl ?_ | refine And.intro (by omega) ?_ | (refine And.intro ?_ ?_; focus (simp only [IntKind.wrap_i64, IntKind.wrap_u64, IntKind.wrap_u32]; omega)) | (refine And.intro ?_ ?_; focus (simp only [zl1, zl2, zl3, zl4, zl5, zl6, zl7, zl8, zl9] <;> omega))))
    conv => whnf
    exact hK
def markE (id : Int) (x : Int × Bool) : Int × Bool := if x.1 = id then (x.1, true) else x
def cntE (id : Int) : List (Int × Bool) → Nat | [] => 0 | x :: l => (if x.1 = id ∧ x.2 = false then 1 else 0) + cntE id l
def doneL : List Int → List (Int × Bool) × Nat → List (Int × Bool) × Nat | [], x => x | id :: r, x => doneL r (x.1.map (markE id), x.2 + cntE id x.1)
theorem cntE_app (id : Int) (a b : List (Int × Bool)) : cntE id (a ++ b) = cntE id a + cntE id b := by
  induction a with
  | nil => simp [cntE]
  | cons x a ih => simp only [List.cons_append, cntE, ih]; omega
theorem cntE_le (id : Int) (a : List (Int × Bool)) : cntE id a ≤ a.length := by
  induction a with
  | nil => simp [cntE]
  | cons x a ih => simp only [cntE, List.length_cons]; split <;> omega
theorem doneL_app (a b : List Int) (x : List (Int × Bool) × Nat) : doneL (a ++ b) x = doneL b (doneL a x) := by
  induction a generalizing x with
  | nil => rfl
  | cons i a ih => exact ih _
theorem doneL_len (a : List Int) (x : List (Int × Bool) × Nat) : (doneL a x).1.length = x.1.length := by
  induction a generalizing x with
  | nil => rfl
  | cons i a ih => rw [doneL, ih]; simp
theorem doneL_cnt (a : List Int) (x : List (Int × Bool) × Nat) : (doneL a x).2 ≤ x.2 + a.length * x.1.length := by
  induction a generalizing x with
  | nil => simp [doneL]
  | cons i a ih =>
    have := ih (x.1.map (markE i), x.2 + cntE i x.1)
    have h2 := cntE_le i x.1
    rw [doneL, List.length_cons, Nat.succ_mul]
    simp only [List.length_map] at this
    omega
def dHp (n nx : Int) (e : TypeId) (o : Bool) (L post : List (Int × Bool)) (ids : List Int) : List Ent := [.cells 56 [.v (.int .i64 n), .v (.int .i64 nx), .slc 1 2 0 L.length], .row true 58 [.int .i64, .bool] ((L ++ post).map orow), .row o e [.int .i64] (ids.map irow)]
theorem done_run (M : HL) (K : SV → List Ent → HL → Prop) (n nx : Int) (e : TypeId) (o : Bool) (L post : List (Int × Bool)) (ids : List Int) (hl : L.length ≤ 1000) (hi : ids.length ≤ 1000)
    (hK : K (.v (.int .i64 ((doneL ids (L, 0)).2 : Nat))) (dHp n nx e o (doneL ids (L, 0)).1 post ids) M) :
    runF G0 pf10 [.ptr 0 0 0 0, .slc 2 1 0 ids.length] (dHp n nx e o L post ids) M K := by
  repeat ((conv => whnf); (first | refine Cnd.yes ?_ | refine Cnd.no ?_ | refine And.intro rfl ?_ | refine And.intro (by omega) ?_ | (refine And.intro ?_ ?_; focus (simp only [IntKind.wrap_i64, IntKind.wrap_u64, IntKind.wrap_u32]; omega)) | (refine And.intro ?_ ?_; focus (simp only [zl1, zl2, zl3, zl4, zl5, zl6, zl7, zl8, zl9] <;> omega))))
  conv => whnf
  refine ⟨fun cnt tm hp M' => ∃ i : Nat, i ≤ ids.length ∧ cnt = ids.length - i ∧ M' = M ∧ tmkK 56 0 [(0, .ptr 0 0 0 0), (5, .v (.int .i64 ((doneL (ids.take i) (L, 0)).2 : Nat))), (9, .slc 2 1 0 ids.length), (10, .v (.int .i64 ids.length)), (11, .v (.int .i64 i))] (fun l => tm = l) ∧ hp = dHp n nx e o (doneL (ids.take i) (L, 0)).1 post ids,
    ⟨ids.length, [0, 1, 2], tmk 56 0 [(0, .ptr 0 0 0 0), (5, .v (.int .i64 ((doneL (ids.take 0) (L, 0)).2 : Nat))), (9, .slc 2 1 0 ids.length), (10, .v (.int .i64 ids.length)), (11, .v (.int .i64 (0 : Nat)))], dHp n nx e o (doneL (ids.take 0) (L, 0)).1 post ids, ?_⟩, ?_⟩
  · repeat ((conv => whnf); (first | refine Cnd.yes ?_ | refine Cnd.no ?_ | refine And.intro rfl ?_ | refine And.intro (by omega) ?_ | (refine And.intro ?_ ?_; focus (simp only [IntKind.wrap_i64, IntKind.wrap_u64, IntKind.wrap_u32]; omega)) | (refine And.intro ?_ ?_; focus (simp only [zl1, zl2, zl3, zl4, zl5, zl6, zl7, zl8, zl9] <;> omega))))
    conv => whnf
    exact ⟨0, by omega, by omega, rfl, (tmkK_eq _ _ _ _).mpr rfl, rfl⟩
  · rintro cnt tm hp M' ⟨i, hi, rfl, rfl, htm, rfl⟩
    conv at htm => whnf
    subst htm
    repeat ((conv => whnf); (first | refine Cnd.yes ?_ | refine Cnd.no ?_ | refine And.intro rfl ?_ | refine And.intro (by omega) ?_ | (refine And.intro ?_ ?_; focus (simp only [IntKind.wrap_i64, IntKind.wrap_u64, IntKind.wrap_u32]; omega)) | (refine And.intro ?_ ?_; focus (simp only [zl1, zl2, zl3, zl4, zl5, zl6, zl7, zl8, zl9] <;> omega))))
    conv => whnf
    refine Cnd.mk (fun hlt => ?_) fun hge => ?_
    · have hin : i < ids.length := by have := of_decide_eq_true hlt; omega
      have hLl := doneL_len (ids.take i) (L, 0)
      have hct := doneL_cnt (ids.take i) (L, 0)
      have hnx : doneL (ids.take (i + 1)) (L, 0) = ((doneL (ids.take i) (L, 0)).1.map (markE (ids.getD i 0)), (doneL (ids.take i) (L, 0)).2 + cntE (ids.getD i 0) (doneL (ids.take i) (L, 0)).1) := by
        have hx : ids.take (i + 1) = ids.take i ++ [ids.getD i 0] := by
          rw [List.take_succ_eq_append_getElem (by omega)]
          simp [List.getD, List.getElem?_eq_getElem (show i < ids.length by omega)]
        rw [hx, doneL_app]
        rfl
      generalize doneL (ids.take i) (L, 0) = X at hLl hct hnx
      obtain ⟨L1, k⟩ := X
      simp only [List.length_take] at hLl hct hnx
      have hk : k ≤ 1000000 := by
        have : min i ids.length * L.length ≤ 1000 * 1000 := Nat.mul_le_mul (by omega) hl
        omega
      repeat ((conv => whnf); (first | refine Cnd.yes ?_ | refine Cnd.no ?_ | refine And.intro rfl ?_ | refine And.intro (by omega) ?_ | (refine And.intro ?_ ?_; focus (simp only [IntKind.wrap_i64, IntKind.wrap_u64, IntKind.wrap_u32]; omega)) | (refine And.intro ?_ ?_; focus (simp only [zl1, zl2, zl3, zl4, zl5, zl6, zl7, zl8, zl9] <;> omega))))
      conv => whnf
      rw [toI_i hin]
      generalize hid : ids.getD i 0 = id at hnx
      refine ⟨fun cnt tm hp M1 => ∃ j : Nat, j ≤ L1.length ∧ cnt = L1.length - j ∧ M1 = M' ∧ tmkK 56 0 [(0, .ptr 0 0 0 0), (5, .v (.int .i64 (k + cntE id (L1.take j) : Nat))), (7, .v (.int .i64 id)), (9, .slc 2 1 0 ids.length), (10, .v (.int .i64 ids.length)), (11, .v (.int .i64 i)), (19, .v (.int .i64 L1.length)), (20, .v (.int .i64 j))] (fun l => tm = l) ∧ hp = dHp n nx e o ((L1.take j).map (markE id) ++ L1.drop j) post ids,
        ⟨L1.length, [0, 1, 2], tmk 56 0 [(0, .ptr 0 0 0 0), (5, .v (.int .i64 (k + cntE id (L1.take 0) : Nat))), (7, .v (.int .i64 id)), (9, .slc 2 1 0 ids.length), (10, .v (.int .i64 ids.length)), (11, .v (.int .i64 i)), (19, .v (.int .i64 L1.length)), (20, .v (.int .i64 (0 : Nat)))], dHp n nx e o ((L1.take 0).map (markE id) ++ L1.drop 0) post ids, ?_⟩, ?_⟩
      · repeat ((conv => whnf); (first | refine Cnd.yes ?_ | refine Cnd.no ?_ | refine And.intro rfl ?_ | refine And.intro (by omega) ?_ | (refine And.intro ?_ ?_; focus (simp only [IntKind.wrap_i64, IntKind.wrap_u64, IntKind.wrap_u32]; omega)) | (refine And.intro ?_ ?_; focus (simp only [zl1, zl2, zl3, zl4, zl5, zl6, zl7, zl8, zl9] <;> omega))))
        conv => whnf
        exact ⟨0, by omega, by omega, rfl, (tmkK_eq _ _ _ _).mpr rfl, rfl⟩
      · rintro cnt tm hp M1 ⟨j, hj, rfl, rfl, htm, rfl⟩
        conv at htm => whnf
        subst htm
        repeat ((conv => whnf); (first | refine Cnd.yes ?_ | refine Cnd.no ?_ | refine And.intro rfl ?_ | refine And.intro (by omega) ?_ | (refine And.intro ?_ ?_; focus (simp only [IntKind.wrap_i64, IntKind.wrap_u64, IntKind.wrap_u32]; omega)) | (refine And.intro ?_ ?_; focus (simp only [zl1, zl2, zl3, zl4, zl5, zl6, zl7, zl8, zl9] <;> omega))))
        conv => whnf
        refine Cnd.mk (fun hlt2 => ?_) fun hge2 => ?_
        · have hjn : j < L1.length := by have := of_decide_eq_true hlt2; omega
          obtain ⟨x, hx⟩ : ∃ x, L1[j]? = some x := ⟨_, List.getElem?_eq_getElem hjn⟩
          have hd : L1.drop j = x :: L1.drop (j + 1) := by
            rw [List.drop_eq_getElem_cons hjn]
            congr 1
            rw [List.getElem?_eq_getElem hjn] at hx
            exact Option.some.inj hx
          have ht : L1.take (j + 1) = L1.take j ++ [x] := by
            rw [List.take_add_one, hx]
            rfl
          have hlen : j = ((L1.take j).map (markE id)).length := by simp; omega
          have hc1 : cntE id (L1.take (j + 1)) = cntE id (L1.take j) + (if x.1 = id ∧ x.2 = false then 1 else 0) := by rw [ht, cntE_app]; simp [cntE]
          have hcl := cntE_le id (L1.take j)
          have hL1 : (L1.take (j + 1)).map (markE id) ++ L1.drop (j + 1) = (L1.take j).map (markE id) ++ markE id x :: L1.drop (j + 1) := by rw [ht]; simp
          have hlt : (L1.take j).length = j := by simp; omega
          rw [hd]
          have hassoc : ∀ y, (L1.take j).map (markE id) ++ y :: L1.drop (j + 1) ++ post = (L1.take j).map (markE id) ++ y :: (L1.drop (j + 1) ++ post) := fun y => by simp
          unfold dHp
          rw [hassoc]
          repeat ((conv => whnf); (first | refine Cnd.yes ?_ | refine Cnd.no ?_ | refine And.intro rfl ?_ | refine And.intro (by omega) ?_ | (refine And.intro ?_ ?_; focus (simp only [IntKind.wrap_i64, IntKind.wrap_u64, IntKind.wrap_u32]; omega)) | (refine And.intro ?_ ?_; focus (simp only [zl1, zl2, zl3, zl4, zl5, zl6, zl7, zl8, zl9] <;> omega))))
          conv => whnf
          rw [cell_mid orow _ _ _ _ _ hlen]
          by_cases h1 : x.1 = id
          · refine Cnd.tt (by simpa [orow, toI] using h1) ?_
            repeat ((conv => whnf); (first | refine Cnd.yes ?_ | refine Cnd.no ?_ | refine And.intro rfl ?_ | refine And.intro (by omega) ?_ | (refine And.intro ?_ ?_; focus (simp only [IntKind.wrap_i64, IntKind.wrap_u64, IntKind.wrap_u32]; omega)) | (refine And.intro ?_ ?_; focus (simp only [zl1, zl2, zl3, zl4, zl5, zl6, zl7, zl8, zl9] <;> omega))))
            conv => whnf
            rw [cell_mid orow _ _ _ _ _ hlen]
            by_cases h2 : x.2 = false
            · refine Cnd.tt (by simp [orow, toB, h2]) ?_
              repeat ((conv => whnf); (first | refine Cnd.yes ?_ | refine Cnd.no ?_ | refine And.intro rfl ?_ | refine And.intro (by omega) ?_ | (refine And.intro ?_ ?_; focus (simp only [IntKind.wrap_i64, IntKind.wrap_u64, IntKind.wrap_u32]; omega)) | (refine And.intro ?_ ?_; focus (simp only [zl1, zl2, zl3, zl4, zl5, zl6, zl7, zl8, zl9] <;> omega))))
              conv => whnf
              rw [set_mid orow _ _ _ (x.1, true) _ _ _ hlen (by simp [orow, over])]
              have hm : markE id x = (x.1, true) := by simp [markE, h1]
              have hp : (if x.1 = id ∧ x.2 = false then 1 else 0) = 1 := if_pos ⟨h1, h2⟩
              refine ⟨L1.length - (j + 1), [0, 1, 2], tmk 56 0 [(0, .ptr 0 0 0 0), (5, .v (.int .i64 (k + cntE id (L1.take (j + 1)) : Nat))), (7, .v (.int .i64 id)), (9, .slc 2 1 0 ids.length), (10, .v (.int .i64 ids.length)), (11, .v (.int .i64 i)), (19, .v (.int .i64 L1.length)), (20, .v (.int .i64 (j + 1 : Nat)))], dHp n nx e o ((L1.take (j + 1)).map (markE id) ++ L1.drop (j + 1)) post ids, by omega, ?_⟩
              rw [hc1, hL1, hm, hp]
              unfold dHp
              rw [hassoc]
              repeat ((conv => whnf); (first | refine Cnd.yes ?_ | refine Cnd.no ?_ | refine And.intro rfl ?_ | refine And.intro (by omega) ?_ | (refine And.intro ?_ ?_; focus (simp only [IntKind.wrap_i64, IntKind.wrap_u64, IntKind.wrap_u32]; omega)) | (refine And.intro ?_ ?_; focus (simp only [zl1, zl2, zl3, zl4, zl5, zl6, zl7, zl8, zl9] <;> omega))))
              conv => whnf
              exact ⟨j + 1, by omega, rfl, rfl, (tmkK_eq _ _ _ _).mpr (by rw [hc1, hp]), by rw [hL1, hm, hassoc]⟩
            · refine Cnd.ff (by simp [orow, toB, h2]) ?_
              repeat ((conv => whnf); (first | refine Cnd.yes ?_ | refine Cnd.no ?_ | refine And.intro rfl ?_ | refine And.intro (by omega) ?_ | (refine And.intro ?_ ?_; focus (simp only [IntKind.wrap_i64, IntKind.wrap_u64, IntKind.wrap_u32]; omega)) | (refine And.intro ?_ ?_; focus (simp only [zl1, zl2, zl3, zl4, zl5, zl6, zl7, zl8, zl9] <;> omega))))
              conv => whnf
              have hm : markE id x = x := by obtain ⟨a, b⟩ := x; simp at h1 h2; simp [markE, h1, h2]
              have hp : (if x.1 = id ∧ x.2 = false then 1 else 0) = 0 := if_neg fun h => h2 h.2
              refine ⟨L1.length - (j + 1), [0, 1, 2], tmk 56 0 [(0, .ptr 0 0 0 0), (5, .v (.int .i64 (k + cntE id (L1.take (j + 1)) : Nat))), (7, .v (.int .i64 id)), (9, .slc 2 1 0 ids.length), (10, .v (.int .i64 ids.length)), (11, .v (.int .i64 i)), (19, .v (.int .i64 L1.length)), (20, .v (.int .i64 (j + 1 : Nat)))], dHp n nx e o ((L1.take (j + 1)).map (markE id) ++ L1.drop (j + 1)) post ids, by omega, ?_⟩
              rw [hc1, hL1, hm, hp]
              unfold dHp
              rw [hassoc]
              repeat ((conv => whnf); (first | refine Cnd.yes ?_ | refine Cnd.no ?_ | refine And.intro rfl ?_ | refine And.intro (by omega) ?_ | (refine And.intro ?_ ?_; focus (simp only [IntKind.wrap_i64, IntKind.wrap_u64, IntKind.wrap_u32]; omega)) | (refine And.intro ?_ ?_; focus (simp only [zl1, zl2, zl3, zl4, zl5, zl6, zl7, zl8, zl9] <;> omega))))
              conv => whnf
              exact ⟨j + 1, by omega, rfl, rfl, (tmkK_eq _ _ _ _).mpr (by rw [hc1, hp]), by rw [hL1, hm, hassoc]⟩
          · refine Cnd.ff (by simpa [orow, toI] using h1) ?_
            repeat ((conv => whnf); (first | refine Cnd.yes ?_ | refine Cnd.no ?_ | refine And.intro rfl ?_ | refine And.intro (by omega) ?_ | (refine And.intro ?_ ?_; focus (simp only [IntKind.wrap_i64, IntKind.wrap_u64, IntKind.wrap_u32]; omega)) | (refine And.intro ?_ ?_; focus (simp only [zl1, zl2, zl3, zl4, zl5, zl6, zl7, zl8, zl9] <;> omega))))
            conv => whnf
            have hm : markE id x = x := by simp [markE, h1]
            have hp : (if x.1 = id ∧ x.2 = false then 1 else 0) = 0 := if_neg fun h => h1 h.1
            refine ⟨L1.length - (j + 1), [0, 1, 2], tmk 56 0 [(0, .ptr 0 0 0 0), (5, .v (.int .i64 (k + cntE id (L1.take (j + 1)) : Nat))), (7, .v (.int .i64 id)), (9, .slc 2 1 0 ids.length), (10, .v (.int .i64 ids.length)), (11, .v (.int .i64 i)), (19, .v (.int .i64 L1.length)), (20, .v (.int .i64 (j + 1 : Nat)))], dHp n nx e o ((L1.take (j + 1)).map (markE id) ++ L1.drop (j + 1)) post ids, by omega, ?_⟩
            rw [hc1, hL1, hm, hp]
            unfold dHp
            rw [hassoc]
            repeat ((conv => whnf); (first | refine Cnd.yes ?_ | refine Cnd.no ?_ | refine And.intro rfl ?_ | refine And.intro (by omega) ?_ | (refine And.intro ?_ ?_; focus (simp only [IntKind.wrap_i64, IntKind.wrap_u64, IntKind.wrap_u32]; omega)) | (refine And.intro ?_ ?_; focus (simp only [zl1, zl2, zl3, zl4, zl5, zl6, zl7, zl8, zl9] <;> omega))))
            conv => whnf
            exact ⟨j + 1, by omega, rfl, rfl, (tmkK_eq _ _ _ _).mpr (by rw [hc1, hp]), by rw [hL1, hm, hassoc]⟩
        · have hjn : j = L1.length := by have := of_decide_eq_false hge2; omega
          subst hjn
          repeat ((conv => whnf); (first | refine Cnd.yes ?_ | refine Cnd.no ?_ | refine And.intro rfl ?_ | refine And.intro (by omega) ?_ | (refine And.intro ?_ ?_; focus (simp only [IntKind.wrap_i64, IntKind.wrap_u64, IntKind.wrap_u32]; omega)) | (refine And.intro ?_ ?_; focus (simp only [zl1, zl2, zl3, zl4, zl5, zl6, zl7, zl8, zl9] <;> omega))))
          conv => whnf
          refine ⟨ids.length - (i + 1), [0, 1, 2], tmk 56 0 [(0, .ptr 0 0 0 0), (5, .v (.int .i64 ((doneL (ids.take (i + 1)) (L, 0)).2 : Nat))), (9, .slc 2 1 0 ids.length), (10, .v (.int .i64 ids.length)), (11, .v (.int .i64 (i + 1 : Nat)))], dHp n nx e o (doneL (ids.take (i + 1)) (L, 0)).1 post ids, by omega, ?_⟩
          rw [hnx]
          rw [List.take_length, List.drop_length, List.append_nil]
          repeat ((conv => whnf); (first | refine Cnd.yes ?_ | refine Cnd.no ?_ | refine And.intro rfl ?_ | refine And.intro (by omega) ?_ | (refine And.intro ?_ ?_; focus (simp only [IntKind.wrap_i64, IntKind.wrap_u64, IntKind.wrap_u32]; omega)) | (refine And.intro ?_ ?_; focus (simp only [zl1, zl2, zl3, zl4, zl5, zl6, zl7, zl8, zl9] <;> omega))))
          conv => whnf
          exact ⟨i + 1, by omega, rfl, rfl, (tmkK_eq _ _ _ _).mpr (by rw [hnx]), by rw [hnx]⟩
    · have hin : i = ids.length := by have := of_decide_eq_false hge; omega
      subst hin
      repeat ((conv => whnf); (first | refine Cnd.yes ?_ | refine Cnd.no ?_ | refine And.intro rfl ?_ | refine And.intro (by omega) ?_ | (refine And.intro ?_ ?_; focus (simp only [IntKind.wrap_i64, IntKind.wrap_u64, IntKind.wrap_u32]; omega)) | (refine And.intro ?_ ?_; focus (simp only [zl1, zl2, zl3, zl4, zl5, zl6, zl7, zl8, zl9] <;> omega))))
      conv => whnf
      rw [List.take_length]
      exact hK
theorem popno_run (M : HL) (K : SV → List Ent → HL → Prop) (n nx : Int) (L post : List (Int × Bool)) (h : ∀ x, L.head? = some x → x.2 = false)
    (hK : K (.tup [.v (.int .i64 0), .v (.bool false)]) (robHp true n nx L post) M) :
    runF G0 pf11 [.ptr 0 0 0 0] (robHp true n nx L post) M fun v hp2 M2 => ∃ m v' hp', Wk (llen (robHp true n nx L post)) m [v] hp2 [v'] hp' (K v' hp' M2) := by
  cases L with
  | nil =>
    repeat ((conv => whnf); (first | refine Cnd.yes ?_ | refine Cnd.no ?_ | refine And.intro rfl ?_ | refine And.intro (by omega) ?_ | (refine And.intro ?_ ?_; focus (simp only [IntKind.wrap_i64, IntKind.wrap_u64, IntKind.wrap_u32]; omega)) | (refine And.intro ?_ ?_; focus (simp only [zl1, zl2, zl3, zl4, zl5, zl6, zl7, zl8, zl9] <;> omega))))
    conv => whnf
    refine ⟨[0, 1], .tup [.v (.int .i64 0), .v (.bool false)], robHp true n nx [] post, ?_⟩
    repeat ((conv => whnf); (first | refine Cnd.yes ?_ | refine Cnd.no ?_ | refine And.intro rfl ?_ | refine And.intro (by omega) ?_ | (refine And.intro ?_ ?_; focus (simp only [IntKind.wrap_i64, IntKind.wrap_u64, IntKind.wrap_u32]; omega)) | (refine And.intro ?_ ?_; focus (simp only [zl1, zl2, zl3, zl4, zl5, zl6, zl7, zl8, zl9] <;> omega))))
    conv => whnf
    exact hK
  | cons x R =>
    have h := h x rfl
    repeat ((conv => whnf); (first | refine Cnd.yes ?_ | refine Cnd.no ?_ | refine And.intro rfl ?_ | refine And.intro (by omega) ?_ | (refine And.intro ?_ ?_; focus (simp only [IntKind.wrap_i64, IntKind.wrap_u64, IntKind.wrap_u32]; omega)) | (refine And.intro ?_ ?_; focus (simp only [zl1, zl2, zl3, zl4, zl5, zl6, zl7, zl8, zl9] <;> omega))))
    conv => whnf
    rw [show toB (cellAt ((x :: R ++ post).map orow) (0 + Int.toNat 0) (0 + 1)) = x.2 from rfl, h]
    repeat ((conv => whnf); (first | refine Cnd.yes ?_ | refine Cnd.no ?_ | refine And.intro rfl ?_ | refine And.intro (by omega) ?_ | (refine And.intro ?_ ?_; focus (simp only [IntKind.wrap_i64, IntKind.wrap_u64, IntKind.wrap_u32]; omega)) | (refine And.intro ?_ ?_; focus (simp only [zl1, zl2, zl3, zl4, zl5, zl6, zl7, zl8, zl9] <;> omega))))
    conv => whnf
    refine ⟨[0, 1], .tup [.v (.int .i64 0), .v (.bool false)], robHp true n nx (x :: R) post, ?_⟩
    repeat ((conv => whnf); (first | refine Cnd.yes ?_ | refine Cnd.no ?_ | refine And.intro rfl ?_ | refine And.intro (by omega) ?_ | (refine And.intro ?_ ?_; focus (simp only [IntKind.wrap_i64, IntKind.wrap_u64, IntKind.wrap_u32]; omega)) | (refine And.intro ?_ ?_; focus (simp only [zl1, zl2, zl3, zl4, zl5, zl6, zl7, zl8, zl9] <;> omega))))
    conv => whnf
    exact hK
theorem pop_run (M : HL) (K : SV → List Ent → HL → Prop) (n nx : Int) (x : Int) (R post : List (Int × Bool)) (hl : R.length ≤ 1000)
    (hK : K (.tup [.v (.int .i64 x), .v (.bool true)]) [.cells 56 [.v (.int .i64 n), .v (.int .i64 nx), .slc 2 2 0 R.length], .gone, .row true 58 [.int .i64, .bool] (R.map orow)] M) :
    runF G0 pf11 [.ptr 0 0 0 0] (robHp true n nx ((x, true) :: R) post) M fun v hp2 M2 => ∃ m v' hp', Wk (llen (robHp true n nx ((x, true) :: R) post)) m [v] hp2 [v'] hp' (K v' hp' M2) := by
  have hrow : List.take 0 (List.drop 0 []) ++ List.take R.length (List.drop (0 + Int.toNat 1) (List.map orow ((x, true) :: R ++ post))) = List.map orow R := by
    show List.take R.length ((R ++ post).map orow) = _
    rw [List.map_append, List.take_append, List.take_of_length_le (by simp)]
    simp
  have hlr : ((((x, true) :: R).length : Int)).toNat - Int.toNat 1 = R.length := by simp
  repeat ((conv => whnf); (first | refine Cnd.yes ?_ | refine Cnd.no ?_ | refine And.intro rfl ?_ | refine And.intro (by omega) ?_ | (refine And.intro ?_ ?_; focus (simp only [IntKind.wrap_i64, IntKind.wrap_u64, IntKind.wrap_u32]; omega)) | (refine And.intro ?_ ?_; focus (simp only [zl1, zl2, zl3, zl4, zl5, zl6, zl7, zl8, zl9] <;> omega))))
  conv => whnf
  rw [hlr]
  refine ⟨fun h0 => ?_, fun h0 => ⟨?_, ?_⟩⟩
  · repeat ((conv => whnf); (first | refine Cnd.yes ?_ | refine Cnd.no ?_ | refine And.intro rfl ?_ | refine And.intro (by omega) ?_ | (refine And.intro ?_ ?_; focus (simp only [IntKind.wrap_i64, IntKind.wrap_u64, IntKind.wrap_u32]; omega)) | (refine And.intro ?_ ?_; focus (simp only [zl1, zl2, zl3, zl4, zl5, zl6, zl7, zl8, zl9] <;> omega))))
    conv => whnf
    refine ⟨[0, 1, 3], .tup [.v (.int .i64 x), .v (.bool true)], [.cells 56 [.v (.int .i64 n), .v (.int .i64 nx), .slc 2 2 0 R.length], .gone, .row true 58 [.int .i64, .bool] (R.map orow)], ?_⟩
    repeat ((conv => whnf); (first | refine Cnd.yes ?_ | refine Cnd.no ?_ | refine And.intro rfl ?_ | refine And.intro (by omega) ?_ | (refine And.intro ?_ ?_; focus (simp only [IntKind.wrap_i64, IntKind.wrap_u64, IntKind.wrap_u32]; omega)) | (refine And.intro ?_ ?_; focus (simp only [zl1, zl2, zl3, zl4, zl5, zl6, zl7, zl8, zl9] <;> omega))))
    conv => whnf
    exact hK
  · repeat ((conv => whnf); (first | refine Cnd.yes ?_ | refine Cnd.no ?_ | refine And.intro rfl ?_ | refine And.intro (by omega) ?_ | (refine And.intro ?_ ?_; focus (simp only [IntKind.wrap_i64, IntKind.wrap_u64, IntKind.wrap_u32]; omega)) | (refine And.intro ?_ ?_; focus (simp only [zl1, zl2, zl3, zl4, zl5, zl6, zl7, zl8, zl9] <;> omega))))
    conv => whnf
    refine ⟨[0, 1, 2], .tup [.v (.int .i64 x), .v (.bool true)], [.cells 56 [.v (.int .i64 n), .v (.int .i64 nx), .slc 2 2 0 R.length], .gone, .row true 58 [.int .i64, .bool] (R.map orow)], ?_⟩
    repeat ((conv => whnf); (first | refine Cnd.yes ?_ | refine Cnd.no ?_ | refine And.intro rfl ?_ | refine And.intro (by omega) ?_ | (refine And.intro ?_ ?_; focus (simp only [IntKind.wrap_i64, IntKind.wrap_u64, IntKind.wrap_u32]; omega)) | (refine And.intro ?_ ?_; focus (simp only [zl1, zl2, zl3, zl4, zl5, zl6, zl7, zl8, zl9] <;> omega))))
    conv => whnf
    refine ⟨by rw [List.length_eq_zero_iff.1 h0]; rfl, ?_⟩
    repeat ((conv => whnf); (first | refine Cnd.yes ?_ | refine Cnd.no ?_ | refine And.intro rfl ?_ | refine And.intro (by omega) ?_ | (refine And.intro ?_ ?_; focus (simp only [IntKind.wrap_i64, IntKind.wrap_u64, IntKind.wrap_u32]; omega)) | (refine And.intro ?_ ?_; focus (simp only [zl1, zl2, zl3, zl4, zl5, zl6, zl7, zl8, zl9] <;> omega))))
    conv => whnf
    exact hK
  · repeat ((conv => whnf); (first | refine Cnd.yes ?_ | refine Cnd.no ?_ | refine And.intro rfl ?_ | refine And.intro (by omega) ?_ | (refine And.intro ?_ ?_; focus (simp only [IntKind.wrap_i64, IntKind.wrap_u64, IntKind.wrap_u32]; omega)) | (refine And.intro ?_ ?_; focus (simp only [zl1, zl2, zl3, zl4, zl5, zl6, zl7, zl8, zl9] <;> omega))))
    conv => whnf
    refine ⟨[0, 1, 3], .tup [.v (.int .i64 x), .v (.bool true)], [.cells 56 [.v (.int .i64 n), .v (.int .i64 nx), .slc 2 2 0 R.length], .gone, .row true 58 [.int .i64, .bool] (R.map orow)], ?_⟩
    repeat ((conv => whnf); (first | refine Cnd.yes ?_ | refine Cnd.no ?_ | refine And.intro rfl ?_ | refine And.intro (by omega) ?_ | (refine And.intro ?_ ?_; focus (simp only [IntKind.wrap_i64, IntKind.wrap_u64, IntKind.wrap_u32]; omega)) | (refine And.intro ?_ ?_; focus (simp only [zl1, zl2, zl3, zl4, zl5, zl6, zl7, zl8, zl9] <;> omega))))
    conv => whnf
    exact hK
def numS : Vc.Spec := fun args hp _ K => ∃ (x b : Int), args = [.v (.int .i64 x), .v (.int .i64 b)] ∧ 0 < b ∧ b ≤ 1000000 ∧ K (.v (.int .i64 (x % b))) hp
theorem num_ok : SOK Tryd.prog 7 numS := by
  refine TOK.weaken (runF_eq G0_ok mixed at7.1 at7.2 pf7_eq) fun args hp M K h => ?_
  obtain ⟨x, b, rfl, h1, h2, h3⟩ := h
  exact number_run M K hp x b h1 h2 h3
theorem new_run (M : HL) (K : SV → List Ent → HL → Prop) (n : Int) (h1 : 1 ≤ n) (h2 : n ≤ 128) (hK : K (.tup [.ptr 0 0 0 0, .v .nilIface]) (robHp true n 0 [] []) M) :
    runF G0 pf8 [.v (.int .i64 n)] [] M fun v hp2 M2 => ∃ m v' hp', Wk (llen ([] : List Ent)) m [v] hp2 [v'] hp' (K v' hp' M2) := by
  repeat ((conv => whnf); (first | refine Cnd.yes ?_ | refine Cnd.no ?_ | refine And.intro rfl ?_ | refine And.intro (by omega) ?_ | (refine And.intro ?_ ?_; focus (simp only [IntKind.wrap_i64, IntKind.wrap_u64, IntKind.wrap_u32]; omega)) | (refine And.intro ?_ ?_; focus (simp only [zl1, zl2, zl3, zl4, zl5, zl6, zl7, zl8, zl9] <;> omega))))
  conv => whnf
  refine Cnd.ff (decide_eq_false (by omega)) ?_
  repeat ((conv => whnf); (first | refine Cnd.yes ?_ | refine Cnd.no ?_ | refine And.intro rfl ?_ | refine And.intro (by omega) ?_ | (refine And.intro ?_ ?_; focus (simp only [IntKind.wrap_i64, IntKind.wrap_u64, IntKind.wrap_u32]; omega)) | (refine And.intro ?_ ?_; focus (simp only [zl1, zl2, zl3, zl4, zl5, zl6, zl7, zl8, zl9] <;> omega))))
  conv => whnf
  refine Cnd.ff (decide_eq_false (by omega)) ?_
  repeat ((conv => whnf); (first | refine Cnd.yes ?_ | refine Cnd.no ?_ | refine And.intro rfl ?_ | refine And.intro (by omega) ?_ | (refine And.intro ?_ ?_; focus (simp only [IntKind.wrap_i64, IntKind.wrap_u64, IntKind.wrap_u32]; omega)) | (refine And.intro ?_ ?_; focus (simp only [zl1, zl2, zl3, zl4, zl5, zl6, zl7, zl8, zl9] <;> omega))))
  conv => whnf
  refine ⟨[0, 1], .tup [.ptr 0 0 0 0, .v .nilIface], robHp true n 0 [] [], ?_⟩
  repeat ((conv => whnf); (first | refine Cnd.yes ?_ | refine Cnd.no ?_ | refine And.intro rfl ?_ | refine And.intro (by omega) ?_ | (refine And.intro ?_ ?_; focus (simp only [IntKind.wrap_i64, IntKind.wrap_u64, IntKind.wrap_u32]; omega)) | (refine And.intro ?_ ?_; focus (simp only [zl1, zl2, zl3, zl4, zl5, zl6, zl7, zl8, zl9] <;> omega))))
  conv => whnf
  exact hK
theorem bad_run (M : HL) (K : SV → List Ent → HL → Prop) (n : Int) (h : n < 1 ∨ 128 < n) (hK : ∃ (t : TypeId) (y : Value), mcell M ⟨0, 0, none⟩ = some (.iface t y) ∧ K (.tup [.v (.pointer none), .v (.iface t y)]) [] M) :
    runF G0 pf8 [.v (.int .i64 n)] [] M fun v hp2 M2 => ∃ m v' hp', Wk (llen ([] : List Ent)) m [v] hp2 [v'] hp' (K v' hp' M2) := by
  obtain ⟨t, y, hy, hK⟩ := hK
  repeat ((conv => whnf); (first | refine Cnd.yes ?_ | refine Cnd.no ?_ | refine And.intro rfl ?_ | refine And.intro (by omega) ?_ | (refine And.intro ?_ ?_; focus (simp only [IntKind.wrap_i64, IntKind.wrap_u64, IntKind.wrap_u32]; omega)) | (refine And.intro ?_ ?_; focus (simp only [zl1, zl2, zl3, zl4, zl5, zl6, zl7, zl8, zl9] <;> omega))))
  conv => whnf
  by_cases h1 : n < 1
  · refine Cnd.tt (decide_eq_true h1) ?_
    repeat ((conv => whnf); (first | refine Cnd.yes ?_ | refine Cnd.no ?_ | refine And.intro rfl ?_ | refine And.intro (by omega) ?_ | (refine And.intro ?_ ?_; focus (simp only [IntKind.wrap_i64, IntKind.wrap_u64, IntKind.wrap_u32]; omega)) | (refine And.intro ?_ ?_; focus (simp only [zl1, zl2, zl3, zl4, zl5, zl6, zl7, zl8, zl9] <;> omega))))
    conv => whnf
    refine ⟨_, hy, ?_⟩
    repeat ((conv => whnf); (first | refine Cnd.yes ?_ | refine Cnd.no ?_ | refine And.intro rfl ?_ | refine And.intro (by omega) ?_ | (refine And.intro ?_ ?_; focus (simp only [IntKind.wrap_i64, IntKind.wrap_u64, IntKind.wrap_u32]; omega)) | (refine And.intro ?_ ?_; focus (simp only [zl1, zl2, zl3, zl4, zl5, zl6, zl7, zl8, zl9] <;> omega))))
    conv => whnf
    refine ⟨[], .tup [.v (.pointer none), .v (.iface t y)], [], ?_⟩
    repeat ((conv => whnf); (first | refine Cnd.yes ?_ | refine Cnd.no ?_ | refine And.intro rfl ?_ | refine And.intro (by omega) ?_ | (refine And.intro ?_ ?_; focus (simp only [IntKind.wrap_i64, IntKind.wrap_u64, IntKind.wrap_u32]; omega)) | (refine And.intro ?_ ?_; focus (simp only [zl1, zl2, zl3, zl4, zl5, zl6, zl7, zl8, zl9] <;> omega))))
    conv => whnf
    exact hK
  · refine Cnd.ff (decide_eq_false h1) ?_
    repeat ((conv => whnf); (first | refine Cnd.yes ?_ | refine Cnd.no ?_ | refine And.intro rfl ?_ | refine And.intro (by omega) ?_ | (refine And.intro ?_ ?_; focus (simp only [IntKind.wrap_i64, IntKind.wrap_u64, IntKind.wrap_u32]; omega)) | (refine And.intro ?_ ?_; focus (simp only [zl1, zl2, zl3, zl4, zl5, zl6, zl7, zl8, zl9] <;> omega))))
    conv => whnf
    refine Cnd.tt (decide_eq_true (by omega)) ?_
    repeat ((conv => whnf); (first | refine Cnd.yes ?_ | refine Cnd.no ?_ | refine And.intro rfl ?_ | refine And.intro (by omega) ?_ | (refine And.intro ?_ ?_; focus (simp only [IntKind.wrap_i64, IntKind.wrap_u64, IntKind.wrap_u32]; omega)) | (refine And.intro ?_ ?_; focus (simp only [zl1, zl2, zl3, zl4, zl5, zl6, zl7, zl8, zl9] <;> omega))))
    conv => whnf
    refine ⟨_, hy, ?_⟩
    repeat ((conv => whnf); (first | refine Cnd.yes ?_ | refine Cnd.no ?_ | refine And.intro rfl ?_ | refine And.intro (by omega) ?_ | (refine And.intro ?_ ?_; focus (simp only [IntKind.wrap_i64, IntKind.wrap_u64, IntKind.wrap_u32]; omega)) | (refine And.intro ?_ ?_; focus (simp only [zl1, zl2, zl3, zl4, zl5, zl6, zl7, zl8, zl9] <;> omega))))
    conv => whnf
    refine ⟨[], .tup [.v (.pointer none), .v (.iface t y)], [], ?_⟩
    repeat ((conv => whnf); (first | refine Cnd.yes ?_ | refine Cnd.no ?_ | refine And.intro rfl ?_ | refine And.intro (by omega) ?_ | (refine And.intro ?_ ?_; focus (simp only [IntKind.wrap_i64, IntKind.wrap_u64, IntKind.wrap_u32]; omega)) | (refine And.intro ?_ ?_; focus (simp only [zl1, zl2, zl3, zl4, zl5, zl6, zl7, zl8, zl9] <;> omega))))
    conv => whnf
    exact hK
def newS : Vc.Spec := fun args hp M K => (∃ n : Int, args = [.v (.int .i64 n)] ∧ hp = [] ∧ 1 ≤ n ∧ n ≤ 128 ∧ K (.tup [.ptr 0 0 0 0, .v .nilIface]) (robHp true n 0 [] [])) ∨
  (∃ n : Int, args = [.v (.int .i64 n)] ∧ hp = [] ∧ (n < 1 ∨ 128 < n) ∧ ∃ (t : TypeId) (y : Value), mcell M ⟨0, 0, none⟩ = some (.iface t y) ∧ K (.tup [.v (.pointer none), .v (.iface t y)]) [])
theorem new_ok : SOK Tryd.prog 8 newS := by
  refine TOK.weaken (TOK.out (runF_eq G0_ok mixed at8.1 at8.2 pf8_eq)) fun args hp M K h => ?_
  rcases h with ⟨n, rfl, rfl, h1, h2, h3⟩ | ⟨n, rfl, rfl, h1, h2⟩
  · exact new_run M K n h1 h2 h3
  · exact bad_run M K n h1 h2
def pushS : Vc.Spec := fun args hp _ K => ∃ (n nx : Int) (L post : List (Int × Bool)), args = [.ptr 0 0 0 0] ∧ hp = robHp true n nx L post ∧ L.length ≤ 1000 ∧ nx < 9000000000000000000 ∧ 0 ≤ nx ∧
  if (L.length : Int) < n then K (.tup [.v (.int .i64 nx), .v (.bool true)]) [.cells 56 [.v (.int .i64 n), .v (.int .i64 (nx + 1)), .slc 2 2 0 (L.length + 1)], .gone, .row true 58 [.int .i64, .bool] ((L ++ [(nx, false)]).map orow)]
      else K (.tup [.v (.int .i64 0), .v (.bool false)]) (robHp true n nx L post)
theorem push_ok : SOK Tryd.prog 9 pushS := by
  refine TOK.weaken (TOK.out (runF_eq G0_ok mixed at9.1 at9.2 pf9_eq)) fun args hp M K h => ?_
  obtain ⟨n, nx, L, post, rfl, rfl, h1, h2, h3, h4⟩ := h
  refine push_run M K n nx L post h1 h2 h3 ?_
  by_cases h : (L.length : Int) < n
  · rw [if_pos h] at h4 ⊢; exact h4
  · rw [if_neg h] at h4 ⊢; exact h4
def doneS : Vc.Spec := fun args hp _ K => ∃ (n nx : Int) (e : TypeId) (o : Bool) (L post : List (Int × Bool)) (ids : List Int), args = [.ptr 0 0 0 0, .slc 2 1 0 ids.length] ∧ hp = dHp n nx e o L post ids ∧ L.length ≤ 1000 ∧ ids.length ≤ 1000 ∧
  K (.v (.int .i64 ((doneL ids (L, 0)).2 : Nat))) (dHp n nx e o (doneL ids (L, 0)).1 post ids)
theorem done_ok : SOK Tryd.prog 10 doneS := by
  refine TOK.weaken (runF_eq G0_ok mixed at10.1 at10.2 pf10_eq) fun args hp M K h => ?_
  obtain ⟨n, nx, e, o, L, post, ids, rfl, rfl, h1, h2, h3⟩ := h
  exact done_run M K n nx e o L post ids h1 h2 h3
def popS : Vc.Spec := fun args hp _ K => (∃ (n nx : Int) (L post : List (Int × Bool)), args = [.ptr 0 0 0 0] ∧ hp = robHp true n nx L post ∧ (∀ x, L.head? = some x → x.2 = false) ∧ K (.tup [.v (.int .i64 0), .v (.bool false)]) (robHp true n nx L post)) ∨
  (∃ (n nx x : Int) (R post : List (Int × Bool)), args = [.ptr 0 0 0 0] ∧ hp = robHp true n nx ((x, true) :: R) post ∧ R.length ≤ 1000 ∧ K (.tup [.v (.int .i64 x), .v (.bool true)]) [.cells 56 [.v (.int .i64 n), .v (.int .i64 nx), .slc 2 2 0 R.length], .gone, .row true 58 [.int .i64, .bool] (R.map orow)])
theorem pop_ok : SOK Tryd.prog 11 popS := by
  refine TOK.weaken (TOK.out (runF_eq G0_ok mixed at11.1 at11.2 pf11_eq)) fun args hp M K h => ?_
  rcases h with ⟨n, nx, L, post, rfl, rfl, h1, h2⟩ | ⟨n, nx, x, R, post, rfl, rfl, h1, h2⟩
  · exact popno_run M K n nx L post h1 h2
  · exact pop_run M K n nx x R post h1 h2
noncomputable def specs1 : Nat → Option Vc.Trans := tget [(7, frameT numS), (8, frameT newS), (9, frameT pushS), (10, frameT doneS), (11, frameT popS)]
noncomputable def G1 : Nat → Option Vc.Trans := tabG specs1 (tget tab) 5
theorem G1_ok : GOK Tryd.prog G1 := tabG_ok (GOK.cons (frame_ok num_ok) (GOK.cons (frame_ok new_ok) (GOK.cons (frame_ok push_ok) (GOK.cons (frame_ok done_ok) (GOK.cons (frame_ok pop_ok) .nil))))) tab_ok 5
end Go.Proofs.YthmofpilphfkcaaDoor
