/-
  The document's net: its Take, walked; its contract.
-/
import Derived.Test.YthomcgclkbmnkaaDoorCn
namespace Go.Proofs.YthomcgclkbmnkaaDoor
open Go Go.Vc
set_option maxRecDepth 100000
set_option linter.unusedSimpArgs false
set_option linter.unusedVariables false
set_option maxHeartbeats 4000000
theorem dtake_run (M : HL) (K : SV → List Ent → HL → Prop) (h r nx id : Int) (L : List Fl) (hl : L.length ≤ 3000)
    (hK1 : (∀ y ∈ L, y.1 ≠ id) → K (.tup [msgV zmsg, .v (.bool false)]) (docHp true h r nx L) M)
    (hK2 : ∀ P m Q, L = P ++ (id, m) :: Q → (∀ y ∈ P, y.1 ≠ id) → K (.tup [msgV m, .v (.bool true)]) [.cells 60 [.v (.int .i64 h), .v (.int .i64 r), .v (.int .i64 nx), .slc 2 12 0 (P ++ Q).length], .gone, .row true 64 fck ((P ++ Q).map frow)] M) :
    runF G0 pf22 [.ptr 0 0 0 0, .v (.int .i64 id)] (docHp true h r nx L) M fun v hp2 M2 => ∃ m v' hp', Wk (llen (docHp true h r nx L)) m [v] hp2 [v'] hp' (K v' hp' M2) := by
  repeat ((conv => whnf); (first | refine Cnd.yes ?_ | refine Cnd.no ?_ | refine And.intro rfl ?_ | refine And.intro (by omega) ?_ | (refine And.intro ?_ ?_; focus (simp only [IntKind.wrap_i64, IntKind.wrap_u64, IntKind.wrap_u32]; omega)) | (refine And.intro ?_ ?_; focus (simp only [zl1, zl2, zl3, zl4, zl5, zl6, zl7, zl8, zl9] <;> omega)) | refine Alt.std ?_ | (refine Cnd.tt ?_ ?_; focus (first | (apply decide_eq_true; omega) | (simp only [zq1, zq2, zq3, zq4, zq5, zq6, zq7, zq8, zq9, zq10, zq11, zq12] <;> omega) | rfl)) | (refine Cnd.ff ?_ ?_; focus (first | (apply decide_eq_false; omega) | (simp only [zq1, zq2, zq3, zq4, zq5, zq6, zq7, zq8, zq9, zq10, zq11, zq12] <;> omega) | rfl))))
  conv => whnf
  refine ⟨InvS 61 (fun s : Nat => L.length - s) (fun s : Nat => s ≤ L.length ∧ ∀ y ∈ L.take s, y.1 ≠ id) (fun s : Nat => [(0, .ptr 0 0 0 0), (1, .v (.int .i64 id)), (4, .ptr 2 0 0 0), (5, .v (.bool false)), (6, .v (.int .i64 s))]) (fun s : Nat => docHp true h r nx L ++ [.cells 33 [.v (.int .i64 0), .v (.int .i64 0), .v (.int .i64 0), .v (.int .i64 0), .v (.int .u32 0), .v (.int .u32 0), .v (.int .u32 0), .v (.int .u32 0), .v (.bool false), .v (.bool false), .v (.bool false)]]) M, ⟨(fun s : Nat => L.length - s) 0, [0, 1, 2], tmk 61 0 ((fun s : Nat => [(0, .ptr 0 0 0 0), (1, .v (.int .i64 id)), (4, .ptr 2 0 0 0), (5, .v (.bool false)), (6, .v (.int .i64 s))]) 0), (fun s : Nat => docHp true h r nx L ++ [.cells 33 [.v (.int .i64 0), .v (.int .i64 0), .v (.int .i64 0), .v (.int .i64 0), .v (.int .u32 0), .v (.int .u32 0), .v (.int .u32 0), .v (.int .u32 0), .v (.bool false), .v (.bool false), .v (.bool false)]]) 0, ?_⟩, ?_⟩
  · repeat ((conv => whnf); (first | refine Cnd.yes ?_ | refine Cnd.no ?_ | refine And.intro rfl ?_ | refine And.intro (by omega) ?_ | (refine And.intro ?_ ?_; focus (simp only [IntKind.wrap_i64, IntKind.wrap_u64, IntKind.wrap_u32]; omega)) | (refine And.intro ?_ ?_; focus (simp only [zl1, zl2, zl3, zl4, zl5, zl6, zl7, zl8, zl9] <;> omega)) | refine Alt.std ?_))
    conv => whnf
    exact ⟨0, ⟨Nat.zero_le _, fun y hy => by cases hy⟩, rfl, rfl, (tmkK_eq _ _ _ _).mpr rfl, rfl⟩
  · rintro cnt tm hp M1 ⟨i, hC_, rfl, rfl, htm, hhp_⟩
    replace hC_ : i ≤ L.length ∧ ∀ y ∈ L.take i, y.1 ≠ id := hC_
    obtain ⟨hi, hall⟩ := hC_
    replace htm : tmkK 61 0 [(0, .ptr 0 0 0 0), (1, .v (.int .i64 id)), (4, .ptr 2 0 0 0), (5, .v (.bool false)), (6, .v (.int .i64 i))] (fun l => tm = l) := htm
    conv at htm => whnf
    subst htm
    replace hhp_ : hp = docHp true h r nx L ++ [.cells 33 [.v (.int .i64 0), .v (.int .i64 0), .v (.int .i64 0), .v (.int .i64 0), .v (.int .u32 0), .v (.int .u32 0), .v (.int .u32 0), .v (.int .u32 0), .v (.bool false), .v (.bool false), .v (.bool false)]] := hhp_
    subst hhp_
    repeat ((conv => whnf); (first | refine Cnd.yes ?_ | refine Cnd.no ?_ | refine And.intro rfl ?_ | refine And.intro (by omega) ?_ | (refine And.intro ?_ ?_; focus (simp only [IntKind.wrap_i64, IntKind.wrap_u64, IntKind.wrap_u32]; omega)) | (refine And.intro ?_ ?_; focus (simp only [zl1, zl2, zl3, zl4, zl5, zl6, zl7, zl8, zl9] <;> omega)) | refine Alt.std ?_ | (refine Cnd.tt ?_ ?_; focus (first | (apply decide_eq_true; omega) | (simp only [zq1, zq2, zq3, zq4, zq5, zq6, zq7, zq8, zq9, zq10, zq11, zq12] <;> omega) | rfl)) | (refine Cnd.ff ?_ ?_; focus (first | (apply decide_eq_false; omega) | (simp only [zq1, zq2, zq3, zq4, zq5, zq6, zq7, zq8, zq9, zq10, zq11, zq12] <;> omega) | rfl))))
    conv => whnf
    refine Cnd.mk (fun hlt => ?_) fun hge => ?_
    · have hin : i < L.length := by have := of_decide_eq_true hlt; omega
      have ht : L.take (i + 1) = L.take i ++ [L.getD i default] := by
        rw [← List.take_append_getElem hin]
        simp [List.getD, hin]
      have hsp : L = L.take i ++ L.getD i default :: L.drop (i + 1) := by
        conv => lhs; rw [← List.take_append_drop (i + 1) L, ht]
        simp
      have hll : (L.take i ++ L.drop (i + 1)).length = i + (L.length - (i + 1)) := by rw [List.length_append, List.length_take, List.length_drop]; omega
      have hc := fun k => cell_map frow L default hin k
      obtain ⟨x, hx⟩ : ∃ x, x = L.getD i default := ⟨_, rfl⟩
      rw [← hx] at ht hsp
      simp only [← hx] at hc
      have hall' : x.1 ≠ id → ∀ y ∈ L.take (i + 1), y.1 ≠ id := fun h y hy => by
        rw [ht] at hy
        rcases List.mem_append.1 hy with h1 | h1
        · exact hall y h1
        · rw [List.mem_singleton.1 h1]; exact h
      have e1 : IntKind.i64.wrap ((i : Int) + 1) = ((i + 1 : Nat) : Int) := by rw [IntKind.wrap_i64]; omega
      have c0 : toI (cellAt (L.map frow) (0 + (i : Int).toNat) (0 + 0)) = x.1 := by rw [hc]; rfl
      repeat ((conv => whnf); (first | refine Cnd.yes ?_ | refine Cnd.no ?_ | refine And.intro rfl ?_ | refine And.intro (by omega) ?_ | (refine And.intro ?_ ?_; focus (simp only [IntKind.wrap_i64, IntKind.wrap_u64, IntKind.wrap_u32]; omega)) | (refine And.intro ?_ ?_; focus (simp only [zl1, zl2, zl3, zl4, zl5, zl6, zl7, zl8, zl9] <;> omega)) | refine Alt.std ?_ | (refine Cnd.tt ?_ ?_; focus (first | (apply decide_eq_true; omega) | (simp only [zq1, zq2, zq3, zq4, zq5, zq6, zq7, zq8, zq9, zq10, zq11, zq12] <;> omega) | rfl)) | (refine Cnd.ff ?_ ?_; focus (first | (apply decide_eq_false; omega) | (simp only [zq1, zq2, zq3, zq4, zq5, zq6, zq7, zq8, zq9, zq10, zq11, zq12] <;> omega) | rfl))))
      conv => whnf
      rw [c0]
      clear c0
      by_cases hid : x.1 = id
      · have hk := hK2 _ x.2 _ (by rw [← hid]; exact hsp) hall
        clear hK2 hall'
        obtain ⟨id', kind, line, xf, xt, d0, d1, d2, d3, b0, b1, b2⟩ := x
        have f0 : toI (cellAt (List.map frow L) (0 + (i : Int).toNat) (0)) = id' := by rw [hc]; rfl
        have f1 : toI (cellAt (List.map frow L) (0 + (i : Int).toNat) (0 + 1)) = kind := by rw [hc]; rfl
        have f2 : toI (cellAt (List.map frow L) (0 + (i : Int).toNat) (0 + 1 + 1)) = line := by rw [hc]; rfl
        have f3 : toI (cellAt (List.map frow L) (0 + (i : Int).toNat) (0 + 1 + 1 + 1)) = xf := by rw [hc]; rfl
        have f4 : toI (cellAt (List.map frow L) (0 + (i : Int).toNat) (0 + 1 + 1 + 1 + 1)) = xt := by rw [hc]; rfl
        have f5 : toI (cellAt (List.map frow L) (0 + (i : Int).toNat) (0 + 1 + 1 + 1 + 1 + 1)) = d0 := by rw [hc]; rfl
        have f6 : toI (cellAt (List.map frow L) (0 + (i : Int).toNat) (0 + 1 + 1 + 1 + 1 + 1 + 1)) = d1 := by rw [hc]; rfl
        have f7 : toI (cellAt (List.map frow L) (0 + (i : Int).toNat) (0 + 1 + 1 + 1 + 1 + 1 + 1 + 1)) = d2 := by rw [hc]; rfl
        have f8 : toI (cellAt (List.map frow L) (0 + (i : Int).toNat) (0 + 1 + 1 + 1 + 1 + 1 + 1 + 1 + 1)) = d3 := by rw [hc]; rfl
        have f9 : toB (cellAt (List.map frow L) (0 + (i : Int).toNat) (0 + 1 + 1 + 1 + 1 + 1 + 1 + 1 + 1 + 1)) = b0 := by rw [hc]; rfl
        have f10 : toB (cellAt (List.map frow L) (0 + (i : Int).toNat) (0 + 1 + 1 + 1 + 1 + 1 + 1 + 1 + 1 + 1 + 1)) = b1 := by rw [hc]; rfl
        have f11 : toB (cellAt (List.map frow L) (0 + (i : Int).toNat) (0 + 1 + 1 + 1 + 1 + 1 + 1 + 1 + 1 + 1 + 1 + 1)) = b2 := by rw [hc]; rfl
        repeat ((conv => whnf); (first | refine Cnd.yes ?_ | refine Cnd.no ?_ | refine And.intro rfl ?_ | refine And.intro (by omega) ?_ | (refine And.intro ?_ ?_; focus (simp only [IntKind.wrap_i64, IntKind.wrap_u64, IntKind.wrap_u32]; omega)) | (refine And.intro ?_ ?_; focus (simp only [zl1, zl2, zl3, zl4, zl5, zl6, zl7, zl8, zl9] <;> omega)) | refine Alt.std ?_ | (refine Cnd.tt ?_ ?_; focus (first | (apply decide_eq_true; omega) | (simp only [zq1, zq2, zq3, zq4, zq5, zq6, zq7, zq8, zq9, zq10, zq11, zq12] <;> omega) | rfl)) | (refine Cnd.ff ?_ ?_; focus (first | (apply decide_eq_false; omega) | (simp only [zq1, zq2, zq3, zq4, zq5, zq6, zq7, zq8, zq9, zq10, zq11, zq12] <;> omega) | rfl))))
        conv => whnf
        rw [f1, f2, f3, f4, f5, f6, f7, f8, f9, f10, f11]
        have t1 : List.take ((i : Int).toNat - ((0 : Nat) : Int).toNat) (List.drop (0 + ((0 : Nat) : Int).toNat) (L.map frow)) = (L.take i).map frow := by simp [List.map_take]
        have t2 : List.take (((L.length : Nat) : Int).toNat - ((i + 1 : Nat) : Int).toNat) (List.drop (0 + ((i + 1 : Nat) : Int).toNat) (L.map frow)) = (L.drop (i + 1)).map frow := by
          rw [Int.toNat_natCast, Int.toNat_natCast, Nat.zero_add, List.take_of_length_le (by simp), List.map_drop]
        all_goals (first | (refine And.intro ?_ ?_) | (intro Mr hMr) | skip)
        all_goals
          repeat ((conv => whnf); (first | refine Cnd.yes ?_ | refine Cnd.no ?_ | refine And.intro rfl ?_ | refine And.intro (by omega) ?_ | (refine And.intro ?_ ?_; focus (simp only [IntKind.wrap_i64, IntKind.wrap_u64, IntKind.wrap_u32]; omega)) | (refine And.intro ?_ ?_; focus (simp only [zl1, zl2, zl3, zl4, zl5, zl6, zl7, zl8, zl9] <;> omega)) | refine Alt.std ?_ | (refine Cnd.tt ?_ ?_; focus (first | (apply decide_eq_true; omega) | (simp only [zq1, zq2, zq3, zq4, zq5, zq6, zq7, zq8, zq9, zq10, zq11, zq12] <;> omega) | rfl)) | (refine Cnd.ff ?_ ?_; focus (first | (apply decide_eq_false; omega) | (simp only [zq1, zq2, zq3, zq4, zq5, zq6, zq7, zq8, zq9, zq10, zq11, zq12] <;> omega) | rfl))))
          conv => whnf
        all_goals (first | (refine And.intro ?_ ?_) | (intro Mr hMr) | skip)
        all_goals
          repeat ((conv => whnf); (first | refine Cnd.yes ?_ | refine Cnd.no ?_ | refine And.intro rfl ?_ | refine And.intro (by omega) ?_ | (refine And.intro ?_ ?_; focus (simp only [IntKind.wrap_i64, IntKind.wrap_u64, IntKind.wrap_u32]; omega)) | (refine And.intro ?_ ?_; focus (simp only [zl1, zl2, zl3, zl4, zl5, zl6, zl7, zl8, zl9] <;> omega)) | refine Alt.std ?_ | (refine Cnd.tt ?_ ?_; focus (first | (apply decide_eq_true; omega) | (simp only [zq1, zq2, zq3, zq4, zq5, zq6, zq7, zq8, zq9, zq10, zq11, zq12] <;> omega) | rfl)) | (refine Cnd.ff ?_ ?_; focus (first | (apply decide_eq_false; omega) | (simp only [zq1, zq2, zq3, zq4, zq5, zq6, zq7, zq8, zq9, zq10, zq11, zq12] <;> omega) | rfl))))
          conv => whnf
        all_goals (first | (refine And.intro ?_ ?_) | (intro Mr hMr) | skip)
        all_goals
          repeat ((conv => whnf); (first | refine Cnd.yes ?_ | refine Cnd.no ?_ | refine And.intro rfl ?_ | refine And.intro (by omega) ?_ | (refine And.intro ?_ ?_; focus (simp only [IntKind.wrap_i64, IntKind.wrap_u64, IntKind.wrap_u32]; omega)) | (refine And.intro ?_ ?_; focus (simp only [zl1, zl2, zl3, zl4, zl5, zl6, zl7, zl8, zl9] <;> omega)) | refine Alt.std ?_ | (refine Cnd.tt ?_ ?_; focus (first | (apply decide_eq_true; omega) | (simp only [zq1, zq2, zq3, zq4, zq5, zq6, zq7, zq8, zq9, zq10, zq11, zq12] <;> omega) | rfl)) | (refine Cnd.ff ?_ ?_; focus (first | (apply decide_eq_false; omega) | (simp only [zq1, zq2, zq3, zq4, zq5, zq6, zq7, zq8, zq9, zq10, zq11, zq12] <;> omega) | rfl))))
          conv => whnf
        all_goals (first | (refine And.intro ?_ ?_) | (intro Mr hMr) | skip)
        all_goals
          repeat ((conv => whnf); (first | refine Cnd.yes ?_ | refine Cnd.no ?_ | refine And.intro rfl ?_ | refine And.intro (by omega) ?_ | (refine And.intro ?_ ?_; focus (simp only [IntKind.wrap_i64, IntKind.wrap_u64, IntKind.wrap_u32]; omega)) | (refine And.intro ?_ ?_; focus (simp only [zl1, zl2, zl3, zl4, zl5, zl6, zl7, zl8, zl9] <;> omega)) | refine Alt.std ?_ | (refine Cnd.tt ?_ ?_; focus (first | (apply decide_eq_true; omega) | (simp only [zq1, zq2, zq3, zq4, zq5, zq6, zq7, zq8, zq9, zq10, zq11, zq12] <;> omega) | rfl)) | (refine Cnd.ff ?_ ?_; focus (first | (apply decide_eq_false; omega) | (simp only [zq1, zq2, zq3, zq4, zq5, zq6, zq7, zq8, zq9, zq10, zq11, zq12] <;> omega) | rfl))))
          conv => whnf
        all_goals (first | (refine And.intro ?_ ?_) | (intro Mr hMr) | skip)
        all_goals
          repeat ((conv => whnf); (first | refine Cnd.yes ?_ | refine Cnd.no ?_ | refine And.intro rfl ?_ | refine And.intro (by omega) ?_ | (refine And.intro ?_ ?_; focus (simp only [IntKind.wrap_i64, IntKind.wrap_u64, IntKind.wrap_u32]; omega)) | (refine And.intro ?_ ?_; focus (simp only [zl1, zl2, zl3, zl4, zl5, zl6, zl7, zl8, zl9] <;> omega)) | refine Alt.std ?_ | (refine Cnd.tt ?_ ?_; focus (first | (apply decide_eq_true; omega) | (simp only [zq1, zq2, zq3, zq4, zq5, zq6, zq7, zq8, zq9, zq10, zq11, zq12] <;> omega) | rfl)) | (refine Cnd.ff ?_ ?_; focus (first | (apply decide_eq_false; omega) | (simp only [zq1, zq2, zq3, zq4, zq5, zq6, zq7, zq8, zq9, zq10, zq11, zq12] <;> omega) | rfl))))
          conv => whnf
        all_goals
          rw [e1]
          refine ⟨[0, 1, 6], .tup [msgV ⟨kind, line, xf, xt, d0, d1, d2, d3, b0, b1, b2⟩, .v (.bool true)], [.cells 60 [.v (.int .i64 h), .v (.int .i64 r), .v (.int .i64 nx), .slc 2 12 0 (L.take i ++ L.drop (i + 1)).length], .gone, .row true 64 fck ((L.take i ++ L.drop (i + 1)).map frow)], ?_⟩
          repeat ((conv => whnf); (first | refine Cnd.yes ?_ | refine Cnd.no ?_ | refine And.intro rfl ?_ | refine And.intro (by omega) ?_ | (refine And.intro ?_ ?_; focus (simp only [IntKind.wrap_i64, IntKind.wrap_u64, IntKind.wrap_u32]; omega)) | (refine And.intro ?_ ?_; focus (simp only [zl1, zl2, zl3, zl4, zl5, zl6, zl7, zl8, zl9] <;> omega)) | refine Alt.std ?_))
          conv => whnf
          refine ⟨?_, ?_⟩
          · rw [List.map_append, List.map_take, List.map_drop, Int.toNat_natCast, Int.toNat_natCast, Int.toNat_natCast, Int.toNat_natCast]
            simp
            rw [List.take_take, Nat.min_self, List.take_of_length_le (l := List.drop (i + 1) (List.map frow L)) (by simp)]
          repeat ((conv => whnf); (first | refine Cnd.yes ?_ | refine Cnd.no ?_ | refine And.intro rfl ?_ | refine And.intro (by omega) ?_ | (refine And.intro ?_ ?_; focus (simp only [IntKind.wrap_i64, IntKind.wrap_u64, IntKind.wrap_u32]; omega)) | (refine And.intro ?_ ?_; focus (simp only [zl1, zl2, zl3, zl4, zl5, zl6, zl7, zl8, zl9] <;> omega)) | refine Alt.std ?_))
          conv => whnf
          exact hk
      · repeat ((conv => whnf); (first | refine Cnd.yes ?_ | refine Cnd.no ?_ | refine And.intro rfl ?_ | refine And.intro (by omega) ?_ | (refine And.intro ?_ ?_; focus (simp only [IntKind.wrap_i64, IntKind.wrap_u64, IntKind.wrap_u32]; omega)) | (refine And.intro ?_ ?_; focus (simp only [zl1, zl2, zl3, zl4, zl5, zl6, zl7, zl8, zl9] <;> omega)) | refine Alt.std ?_ | (refine Cnd.tt ?_ ?_; focus (first | (apply decide_eq_true; omega) | (simp only [zq1, zq2, zq3, zq4, zq5, zq6, zq7, zq8, zq9, zq10, zq11, zq12] <;> omega) | rfl)) | (refine Cnd.ff ?_ ?_; focus (first | (apply decide_eq_false; omega) | (simp only [zq1, zq2, zq3, zq4, zq5, zq6, zq7, zq8, zq9, zq10, zq11, zq12] <;> omega) | rfl))))
        conv => whnf
        (refine ⟨(fun s : Nat => L.length - s) (i + 1), [0, 1, 2], tmk 61 0 ((fun s : Nat => [(0, .ptr 0 0 0 0), (1, .v (.int .i64 id)), (4, .ptr 2 0 0 0), (5, .v (.bool false)), (6, .v (.int .i64 s))]) (i + 1)), (fun s : Nat => docHp true h r nx L ++ [.cells 33 [.v (.int .i64 0), .v (.int .i64 0), .v (.int .i64 0), .v (.int .i64 0), .v (.int .u32 0), .v (.int .u32 0), .v (.int .u32 0), .v (.int .u32 0), .v (.bool false), .v (.bool false), .v (.bool false)]]) (i + 1), ?_, ?_⟩; focus (first | (simp only []; omega) | omega))
        repeat ((conv => whnf); (first | refine Cnd.yes ?_ | refine Cnd.no ?_ | refine And.intro rfl ?_ | refine And.intro (by omega) ?_ | (refine And.intro ?_ ?_; focus (simp only [IntKind.wrap_i64, IntKind.wrap_u64, IntKind.wrap_u32]; omega)) | (refine And.intro ?_ ?_; focus (simp only [zl1, zl2, zl3, zl4, zl5, zl6, zl7, zl8, zl9] <;> omega)) | refine Alt.std ?_))
        conv => whnf
        exact ⟨i + 1, ⟨hin, hall' hid⟩, rfl, rfl, (tmkK_eq _ _ _ _).mpr rfl, rfl⟩
    · obtain rfl : i = L.length := by have := of_decide_eq_false hge; omega
      rw [List.take_length] at hall
      repeat ((conv => whnf); (first | refine Cnd.yes ?_ | refine Cnd.no ?_ | refine And.intro rfl ?_ | refine And.intro (by omega) ?_ | (refine And.intro ?_ ?_; focus (simp only [IntKind.wrap_i64, IntKind.wrap_u64, IntKind.wrap_u32]; omega)) | (refine And.intro ?_ ?_; focus (simp only [zl1, zl2, zl3, zl4, zl5, zl6, zl7, zl8, zl9] <;> omega)) | refine Alt.std ?_ | (refine Cnd.tt ?_ ?_; focus (first | (apply decide_eq_true; omega) | (simp only [zq1, zq2, zq3, zq4, zq5, zq6, zq7, zq8, zq9, zq10, zq11, zq12] <;> omega) | rfl)) | (refine Cnd.ff ?_ ?_; focus (first | (apply decide_eq_false; omega) | (simp only [zq1, zq2, zq3, zq4, zq5, zq6, zq7, zq8, zq9, zq10, zq11, zq12] <;> omega) | rfl))))
      conv => whnf
      refine ⟨[0, 1], .tup [msgV zmsg, .v (.bool false)], docHp true h r nx L, ?_⟩
      repeat ((conv => whnf); (first | refine Cnd.yes ?_ | refine Cnd.no ?_ | refine And.intro rfl ?_ | refine And.intro (by omega) ?_ | (refine And.intro ?_ ?_; focus (simp only [IntKind.wrap_i64, IntKind.wrap_u64, IntKind.wrap_u32]; omega)) | (refine And.intro ?_ ?_; focus (simp only [zl1, zl2, zl3, zl4, zl5, zl6, zl7, zl8, zl9] <;> omega)) | refine Alt.std ?_))
      conv => whnf
      exact hK1 hall
def dtakeS : Vc.Spec := fun args hp M K => ∃ (h r nx id : Int) (L : List Fl), args = [.ptr 0 0 0 0, .v (.int .i64 id)] ∧ hp = docHp true h r nx L ∧ L.length ≤ 3000 ∧ ((∀ y ∈ L, y.1 ≠ id) → K (.tup [msgV zmsg, .v (.bool false)]) (docHp true h r nx L)) ∧
  ∀ P m Q, L = P ++ (id, m) :: Q → (∀ y ∈ P, y.1 ≠ id) → K (.tup [msgV m, .v (.bool true)]) [.cells 60 [.v (.int .i64 h), .v (.int .i64 r), .v (.int .i64 nx), .slc 2 12 0 (P ++ Q).length], .gone, .row true 64 fck ((P ++ Q).map frow)]
theorem dtake_ok : SOK Tryd.prog 22 dtakeS := by
  refine TOK.weaken (TOK.out (runF_eq G0_ok mixed at22.1 at22.2 pf22_eq)) fun args hp M K h => ?_
  obtain ⟨h', r, nx, id, L, rfl, rfl, h1, h2, h3⟩ := h
  exact dtake_run M K h' r nx id L h1 h2 h3
end Go.Proofs.YthomcgclkbmnkaaDoor
