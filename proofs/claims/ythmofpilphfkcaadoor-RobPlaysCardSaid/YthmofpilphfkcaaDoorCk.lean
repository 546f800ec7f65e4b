/-
  The document's buffer: Pop, Cut, Ids; Head of the program's, Ids that only reads: walked; their contracts.
-/
import Derived.Test.YthmofpilphfkcaaDoorCj
namespace Go.Proofs.YthmofpilphfkcaaDoor
open Go Go.Vc
set_option maxRecDepth 100000
set_option linter.unusedSimpArgs false
set_option linter.unusedVariables false
set_option maxHeartbeats 4000000
theorem cellX {pre L post : List (Int × Bool)} {i : Nat} (hi : i < L.length) : toI (cellAt ((pre ++ L ++ post).map orow) (pre.length + (i : Int).toNat) 0) = (L.getD i (0, false)).1 := by
  have h : ((pre ++ L ++ post).map orow).getD (pre.length + i) [] = orow (L.getD i (0, false)) := by
    rw [List.getD_eq_getElem?_getD, List.getElem?_map, List.append_assoc, List.getElem?_append_right (by omega), show pre.length + i - pre.length = i by omega, List.getElem?_append_left hi]
    simp [hi]
  rw [Int.toNat_natCast]
  show toI ((((pre ++ L ++ post).map orow).getD (pre.length + i) []).getD 0 undef) = _
  rw [h]
  rfl
theorem xpopno_run (M : HL) (K : SV → List Ent → HL → Prop) (n nx : Int) (pre L post : List (Int × Bool)) (h : ∀ x, L.head? = some x → x.2 = false)
    (hK : K (.tup [.v (.int .i64 0), .v (.bool false)]) (xHp true n nx pre L post) M) :
    runF G0 pf18 [.ptr 0 0 0 0] (xHp true n nx pre L post) M K := by
  cases L with
  | nil =>
    repeat ((conv => whnf); (first | refine Cnd.yes ?_ | refine Cnd.no ?_ | refine And.intro rfl ?_ | refine And.intro (by omega) ?_ | (refine And.intro ?_ ?_; focus (simp only [IntKind.wrap_i64, IntKind.wrap_u64, IntKind.wrap_u32]; omega)) | (refine And.intro ?_ ?_; focus (simp only [zl1, zl2, zl3, zl4, zl5, zl6, zl7, zl8, zl9] <;> omega)) | (refine Cnd.tt ?_ ?_; focus (first | (apply decide_eq_true; omega) | (simp only [zq1, zq2, zq3, zq4, zq5, zq6, zq7, zq8, zq9, zq10, zq11, zq12] <;> omega) | rfl)) | (refine Cnd.ff ?_ ?_; focus (first | (apply decide_eq_false; omega) | (simp only [zq1, zq2, zq3, zq4, zq5, zq6, zq7, zq8, zq9, zq10, zq11, zq12] <;> omega) | rfl))))
    conv => whnf
    exact hK
  | cons x R =>
    have h := h x rfl
    obtain ⟨u, b⟩ := x
    simp only at h
    subst h
    have c1 := cell_at orow pre (R ++ post) (u, false) (j := pre.length + Int.toNat 0) 1 (by simp)
    rw [show pre ++ (u, false) :: (R ++ post) = pre ++ ((u, false) :: R) ++ post by simp] at c1
    have hl : ((u, false) :: R).length = R.length + 1 := rfl
    repeat ((conv => whnf); (first | refine Cnd.yes ?_ | refine Cnd.no ?_ | refine And.intro rfl ?_ | refine And.intro (by omega) ?_ | (refine And.intro ?_ ?_; focus (simp only [IntKind.wrap_i64, IntKind.wrap_u64, IntKind.wrap_u32]; omega)) | (refine And.intro ?_ ?_; focus (simp only [zl1, zl2, zl3, zl4, zl5, zl6, zl7, zl8, zl9] <;> omega)) | (refine Cnd.tt ?_ ?_; focus (first | (apply decide_eq_true; omega) | (simp only [zq1, zq2, zq3, zq4, zq5, zq6, zq7, zq8, zq9, zq10, zq11, zq12] <;> omega) | rfl)) | (refine Cnd.ff ?_ ?_; focus (first | (apply decide_eq_false; omega) | (simp only [zq1, zq2, zq3, zq4, zq5, zq6, zq7, zq8, zq9, zq10, zq11, zq12] <;> omega) | rfl))))
    conv => whnf
    rw [c1]
    repeat ((conv => whnf); (first | refine Cnd.yes ?_ | refine Cnd.no ?_ | refine And.intro rfl ?_ | refine And.intro (by omega) ?_ | (refine And.intro ?_ ?_; focus (simp only [IntKind.wrap_i64, IntKind.wrap_u64, IntKind.wrap_u32]; omega)) | (refine And.intro ?_ ?_; focus (simp only [zl1, zl2, zl3, zl4, zl5, zl6, zl7, zl8, zl9] <;> omega)) | (refine Cnd.tt ?_ ?_; focus (first | (apply decide_eq_true; omega) | (simp only [zq1, zq2, zq3, zq4, zq5, zq6, zq7, zq8, zq9, zq10, zq11, zq12] <;> omega) | rfl)) | (refine Cnd.ff ?_ ?_; focus (first | (apply decide_eq_false; omega) | (simp only [zq1, zq2, zq3, zq4, zq5, zq6, zq7, zq8, zq9, zq10, zq11, zq12] <;> omega) | rfl))))
    conv => whnf
    exact hK
theorem xpop_run (M : HL) (K : SV → List Ent → HL → Prop) (n nx : Int) (pre : List (Int × Bool)) (u : Int) (R post : List (Int × Bool)) (hl0 : R.length ≤ 1000)
    (hK : K (.tup [.v (.int .i64 u), .v (.bool true)]) (xHp true n nx (pre ++ [(u, true)]) R post) M) :
    runF G0 pf18 [.ptr 0 0 0 0] (xHp true n nx pre ((u, true) :: R) post) M K := by
  have c0 := cell_at orow pre (R ++ post) (u, true) (j := pre.length + Int.toNat 0) 0 (by simp)
  have c1 := cell_at orow pre (R ++ post) (u, true) (j := pre.length + Int.toNat 0) 1 (by simp)
  have hpre : pre ++ (u, true) :: (R ++ post) = pre ++ ((u, true) :: R) ++ post := by simp
  rw [hpre] at c0 c1
  have hl : ((u, true) :: R).length = R.length + 1 := rfl
  have e1 : ((((u, true) :: R).length : Nat) : Int).toNat - Int.toNat 1 = R.length := by simp
  have e2 : pre.length + Int.toNat 1 = (pre ++ [(u, true)]).length := by simp
  have e3 : pre ++ ((u, true) :: R) ++ post = (pre ++ [(u, true)]) ++ R ++ post := by simp
  repeat ((conv => whnf); (first | refine Cnd.yes ?_ | refine Cnd.no ?_ | refine And.intro rfl ?_ | refine And.intro (by omega) ?_ | (refine And.intro ?_ ?_; focus (simp only [IntKind.wrap_i64, IntKind.wrap_u64, IntKind.wrap_u32]; omega)) | (refine And.intro ?_ ?_; focus (simp only [zl1, zl2, zl3, zl4, zl5, zl6, zl7, zl8, zl9] <;> omega)) | (refine Cnd.tt ?_ ?_; focus (first | (apply decide_eq_true; omega) | (simp only [zq1, zq2, zq3, zq4, zq5, zq6, zq7, zq8, zq9, zq10, zq11, zq12] <;> omega) | rfl)) | (refine Cnd.ff ?_ ?_; focus (first | (apply decide_eq_false; omega) | (simp only [zq1, zq2, zq3, zq4, zq5, zq6, zq7, zq8, zq9, zq10, zq11, zq12] <;> omega) | rfl))))
  conv => whnf
  rw [c1]
  repeat ((conv => whnf); (first | refine Cnd.yes ?_ | refine Cnd.no ?_ | refine And.intro rfl ?_ | refine And.intro (by omega) ?_ | (refine And.intro ?_ ?_; focus (simp only [IntKind.wrap_i64, IntKind.wrap_u64, IntKind.wrap_u32]; omega)) | (refine And.intro ?_ ?_; focus (simp only [zl1, zl2, zl3, zl4, zl5, zl6, zl7, zl8, zl9] <;> omega)) | (refine Cnd.tt ?_ ?_; focus (first | (apply decide_eq_true; omega) | (simp only [zq1, zq2, zq3, zq4, zq5, zq6, zq7, zq8, zq9, zq10, zq11, zq12] <;> omega) | rfl)) | (refine Cnd.ff ?_ ?_; focus (first | (apply decide_eq_false; omega) | (simp only [zq1, zq2, zq3, zq4, zq5, zq6, zq7, zq8, zq9, zq10, zq11, zq12] <;> omega) | rfl))))
  conv => whnf
  rw [c0]
  repeat ((conv => whnf); (first | refine Cnd.yes ?_ | refine Cnd.no ?_ | refine And.intro rfl ?_ | refine And.intro (by omega) ?_ | (refine And.intro ?_ ?_; focus (simp only [IntKind.wrap_i64, IntKind.wrap_u64, IntKind.wrap_u32]; omega)) | (refine And.intro ?_ ?_; focus (simp only [zl1, zl2, zl3, zl4, zl5, zl6, zl7, zl8, zl9] <;> omega)) | (refine Cnd.tt ?_ ?_; focus (first | (apply decide_eq_true; omega) | (simp only [zq1, zq2, zq3, zq4, zq5, zq6, zq7, zq8, zq9, zq10, zq11, zq12] <;> omega) | rfl)) | (refine Cnd.ff ?_ ?_; focus (first | (apply decide_eq_false; omega) | (simp only [zq1, zq2, zq3, zq4, zq5, zq6, zq7, zq8, zq9, zq10, zq11, zq12] <;> omega) | rfl))))
  conv => whnf
  rw [e1, e2]
  rw [xHp, ← e3] at hK
  exact hK
def xpopS : Vc.Spec := fun args hp _ K => (∃ (n nx : Int) (pre L post : List (Int × Bool)), args = [.ptr 0 0 0 0] ∧ hp = xHp true n nx pre L post ∧ (∀ x, L.head? = some x → x.2 = false) ∧ K (.tup [.v (.int .i64 0), .v (.bool false)]) (xHp true n nx pre L post)) ∨
  (∃ (n nx : Int) (pre : List (Int × Bool)) (u : Int) (R post : List (Int × Bool)), args = [.ptr 0 0 0 0] ∧ hp = xHp true n nx pre ((u, true) :: R) post ∧ R.length ≤ 1000 ∧ K (.tup [.v (.int .i64 u), .v (.bool true)]) (xHp true n nx (pre ++ [(u, true)]) R post))
theorem xpop_ok : SOK Tryd.prog 18 xpopS := by
  refine TOK.weaken (runF_eq G0_ok mixed at18.1 at18.2 pf18_eq) fun args hp M K h => ?_
  rcases h with ⟨n, nx, pre, L, post, rfl, rfl, h1, h2⟩ | ⟨n, nx, pre, u, R, post, rfl, rfl, h1, h2⟩
  · exact xpopno_run M K n nx pre L post h1 h2
  · exact xpop_run M K n nx pre u R post h1 h2
/-- What is kept, told so far: nothing met (-1), or up to behind the last one of the number. -/
def KeepS (id : Int) (L : List (Int × Bool)) (s : Nat) (k : Int) : Prop := (k = -1 ∧ ∀ j, j < s → (L.getD j (0, false)).1 ≠ id) ∨ ∃ q : Nat, q < s ∧ k = (q : Int) + 1 ∧ (L.getD q (0, false)).1 = id ∧ ∀ j, q < j → j < s → (L.getD j (0, false)).1 ≠ id
theorem KeepS.hit {id : Int} {L : List (Int × Bool)} {s : Nat} {k : Int} (h : (L.getD s (0, false)).1 = id) : KeepS id L (s + 1) ((s : Int) + 1) := .inr ⟨s, by omega, rfl, h, fun j h1 h2 => by omega⟩
theorem KeepS.no {id : Int} {L : List (Int × Bool)} {s : Nat} {k : Int} (h : (L.getD s (0, false)).1 ≠ id) (hk : KeepS id L s k) : KeepS id L (s + 1) k := by
  have hl : ∀ j, j < s + 1 → j < s ∨ j = s := fun j hj => by omega
  rcases hk with ⟨h1, h2⟩ | ⟨q, h1, h2, h3, h4⟩
  · refine .inl ⟨h1, fun j hj => ?_⟩
    rcases hl j hj with h5 | rfl
    · exact h2 j h5
    · exact h
  · refine .inr ⟨q, by omega, h2, h3, fun j h5 hj => ?_⟩
    rcases hl j hj with h6 | rfl
    · exact h4 j h5 h6
    · exact h
theorem KeepS.le {id : Int} {L : List (Int × Bool)} {s : Nat} {k : Int} (h : KeepS id L s k) : -1 ≤ k ∧ k ≤ s := by
  rcases h with ⟨h1, h2⟩ | ⟨q, h1, h2, h3, h4⟩ <;> omega
theorem xcut_run (M : HL) (K : SV → List Ent → HL → Prop) (n nx id : Int) (pre L post : List (Int × Bool)) (hl : L.length ≤ 1000) (m : Nat) (hm : m ≤ L.length) (hix : id = -1 ∧ m = 0 ∨ id ≠ -1 ∧ ∀ k', KeepS id L L.length k' → k' = m)
    (hK : K (.slc 2 1 0 (L.length - m)) [.cells 44 [.v (.int .i64 n), .v (.int .i64 nx), .slc 1 2 pre.length m], .row true 52 [.int .i64, .bool] ((pre ++ L ++ post).map orow), .row true 3 [.int .i64] ((cutOut L m).map irow)] M) :
    runF G0 pf20 [.ptr 0 0 0 0, .v (.int .i64 id)] (xHp true n nx pre L post) M fun v hp2 M2 => ∃ m v' hp', Wk (llen (xHp true n nx pre L post)) m [v] hp2 [v'] hp' (K v' hp' M2) := by
  repeat ((conv => whnf); (first | refine Cnd.yes ?_ | refine Cnd.no ?_ | refine And.intro rfl ?_ | refine And.intro (by omega) ?_ | (refine And.intro ?_ ?_; focus (simp only [IntKind.wrap_i64, IntKind.wrap_u64, IntKind.wrap_u32]; omega)) | (refine And.intro ?_ ?_; focus (simp only [zl1, zl2, zl3, zl4, zl5, zl6, zl7, zl8, zl9] <;> omega)) | (refine Cnd.tt ?_ ?_; focus (first | (apply decide_eq_true; omega) | (simp only [zq1, zq2, zq3, zq4, zq5, zq6, zq7, zq8, zq9, zq10, zq11, zq12] <;> omega) | rfl)) | (refine Cnd.ff ?_ ?_; focus (first | (apply decide_eq_false; omega) | (simp only [zq1, zq2, zq3, zq4, zq5, zq6, zq7, zq8, zq9, zq10, zq11, zq12] <;> omega) | rfl))))
  conv => whnf
  refine ⟨InvS 67 (fun s : Nat × Int => L.length - s.1) (fun s : Nat × Int => s.1 ≤ L.length ∧ KeepS id L s.1 s.2) (fun s : Nat × Int => [(0, .ptr 0 0 0 0), (1, .v (.int .i64 id)), (5, .v (.int .i64 s.2)), (6, .v (.int .i64 s.1))]) (fun s : Nat × Int => xHp true n nx pre L post) M, ⟨(fun s : Nat × Int => L.length - s.1) (0, -1), [0, 1], tmk 67 0 ((fun s : Nat × Int => [(0, .ptr 0 0 0 0), (1, .v (.int .i64 id)), (5, .v (.int .i64 s.2)), (6, .v (.int .i64 s.1))]) (0, -1)), (fun s : Nat × Int => xHp true n nx pre L post) (0, -1), ?_⟩, ?_⟩
  · repeat ((conv => whnf); (first | refine Cnd.yes ?_ | refine Cnd.no ?_ | refine And.intro rfl ?_ | refine And.intro (by omega) ?_ | (refine And.intro ?_ ?_; focus (simp only [IntKind.wrap_i64, IntKind.wrap_u64, IntKind.wrap_u32]; omega)) | (refine And.intro ?_ ?_; focus (simp only [zl1, zl2, zl3, zl4, zl5, zl6, zl7, zl8, zl9] <;> omega))))
    conv => whnf
    exact ⟨(0, -1), ⟨Nat.zero_le _, .inl ⟨rfl, fun j hj => by omega⟩⟩, rfl, rfl, (tmkK_eq _ _ _ _).mpr rfl, rfl⟩
  · rintro cnt tm hp M1 ⟨⟨i,k⟩, hC_, rfl, rfl, htm, hhp_⟩
    replace hC_ : i ≤ L.length ∧ KeepS id L i k := hC_
    obtain ⟨hi, hk⟩ := hC_
    replace htm : tmkK 67 0 [(0, .ptr 0 0 0 0), (1, .v (.int .i64 id)), (5, .v (.int .i64 k)), (6, .v (.int .i64 i))] (fun l => tm = l) := htm
    conv at htm => whnf
    subst htm
    replace hhp_ : hp = xHp true n nx pre L post := hhp_
    subst hhp_
    repeat ((conv => whnf); (first | refine Cnd.yes ?_ | refine Cnd.no ?_ | refine And.intro rfl ?_ | refine And.intro (by omega) ?_ | (refine And.intro ?_ ?_; focus (simp only [IntKind.wrap_i64, IntKind.wrap_u64, IntKind.wrap_u32]; omega)) | (refine And.intro ?_ ?_; focus (simp only [zl1, zl2, zl3, zl4, zl5, zl6, zl7, zl8, zl9] <;> omega)) | (refine Cnd.tt ?_ ?_; focus (first | (apply decide_eq_true; omega) | (simp only [zq1, zq2, zq3, zq4, zq5, zq6, zq7, zq8, zq9, zq10, zq11, zq12] <;> omega) | rfl)) | (refine Cnd.ff ?_ ?_; focus (first | (apply decide_eq_false; omega) | (simp only [zq1, zq2, zq3, zq4, zq5, zq6, zq7, zq8, zq9, zq10, zq11, zq12] <;> omega) | rfl))))
    conv => whnf
    refine Cnd.mk (fun hlt => ?_) fun hge => ?_
    · have hin : i < L.length := by have := of_decide_eq_true hlt; omega
      have e0 := cellX (pre := pre) (post := post) hin
      repeat ((conv => whnf); (first | refine Cnd.yes ?_ | refine Cnd.no ?_ | refine And.intro rfl ?_ | refine And.intro (by omega) ?_ | (refine And.intro ?_ ?_; focus (simp only [IntKind.wrap_i64, IntKind.wrap_u64, IntKind.wrap_u32]; omega)) | (refine And.intro ?_ ?_; focus (simp only [zl1, zl2, zl3, zl4, zl5, zl6, zl7, zl8, zl9] <;> omega)) | (refine Cnd.tt ?_ ?_; focus (first | (apply decide_eq_true; omega) | (simp only [zq1, zq2, zq3, zq4, zq5, zq6, zq7, zq8, zq9, zq10, zq11, zq12] <;> omega) | rfl)) | (refine Cnd.ff ?_ ?_; focus (first | (apply decide_eq_false; omega) | (simp only [zq1, zq2, zq3, zq4, zq5, zq6, zq7, zq8, zq9, zq10, zq11, zq12] <;> omega) | rfl))))
      conv => whnf
      rw [e0]
      by_cases h : (L.getD i (0, false)).1 = id
      · repeat ((conv => whnf); (first | refine Cnd.yes ?_ | refine Cnd.no ?_ | refine And.intro rfl ?_ | refine And.intro (by omega) ?_ | (refine And.intro ?_ ?_; focus (simp only [IntKind.wrap_i64, IntKind.wrap_u64, IntKind.wrap_u32]; omega)) | (refine And.intro ?_ ?_; focus (simp only [zl1, zl2, zl3, zl4, zl5, zl6, zl7, zl8, zl9] <;> omega)) | (refine Cnd.tt ?_ ?_; focus (first | (apply decide_eq_true; omega) | (simp only [zq1, zq2, zq3, zq4, zq5, zq6, zq7, zq8, zq9, zq10, zq11, zq12] <;> omega) | rfl)) | (refine Cnd.ff ?_ ?_; focus (first | (apply decide_eq_false; omega) | (simp only [zq1, zq2, zq3, zq4, zq5, zq6, zq7, zq8, zq9, zq10, zq11, zq12] <;> omega) | rfl))))
        conv => whnf
        (refine ⟨(fun s : Nat × Int => L.length - s.1) ((i + 1, (i : Int) + 1)), [0, 1], tmk 67 0 ((fun s : Nat × Int => [(0, .ptr 0 0 0 0), (1, .v (.int .i64 id)), (5, .v (.int .i64 s.2)), (6, .v (.int .i64 s.1))]) ((i + 1, (i : Int) + 1))), (fun s : Nat × Int => xHp true n nx pre L post) ((i + 1, (i : Int) + 1)), ?_, ?_⟩; focus (first | (simp only []; omega) | omega))
        repeat ((conv => whnf); (first | refine Cnd.yes ?_ | refine Cnd.no ?_ | refine And.intro rfl ?_ | refine And.intro (by omega) ?_ | (refine And.intro ?_ ?_; focus (simp only [IntKind.wrap_i64, IntKind.wrap_u64, IntKind.wrap_u32]; omega)) | (refine And.intro ?_ ?_; focus (simp only [zl1, zl2, zl3, zl4, zl5, zl6, zl7, zl8, zl9] <;> omega))))
        conv => whnf
        exact ⟨(i + 1, (i : Int) + 1), ⟨hin, KeepS.hit (k := k) h⟩, rfl, rfl, (tmkK_eq _ _ _ _).mpr rfl, rfl⟩
      · repeat ((conv => whnf); (first | refine Cnd.yes ?_ | refine Cnd.no ?_ | refine And.intro rfl ?_ | refine And.intro (by omega) ?_ | (refine And.intro ?_ ?_; focus (simp only [IntKind.wrap_i64, IntKind.wrap_u64, IntKind.wrap_u32]; omega)) | (refine And.intro ?_ ?_; focus (simp only [zl1, zl2, zl3, zl4, zl5, zl6, zl7, zl8, zl9] <;> omega)) | (refine Cnd.tt ?_ ?_; focus (first | (apply decide_eq_true; omega) | (simp only [zq1, zq2, zq3, zq4, zq5, zq6, zq7, zq8, zq9, zq10, zq11, zq12] <;> omega) | rfl)) | (refine Cnd.ff ?_ ?_; focus (first | (apply decide_eq_false; omega) | (simp only [zq1, zq2, zq3, zq4, zq5, zq6, zq7, zq8, zq9, zq10, zq11, zq12] <;> omega) | rfl))))
        conv => whnf
        (refine ⟨(fun s : Nat × Int => L.length - s.1) ((i + 1, k)), [0, 1], tmk 67 0 ((fun s : Nat × Int => [(0, .ptr 0 0 0 0), (1, .v (.int .i64 id)), (5, .v (.int .i64 s.2)), (6, .v (.int .i64 s.1))]) ((i + 1, k))), (fun s : Nat × Int => xHp true n nx pre L post) ((i + 1, k)), ?_, ?_⟩; focus (first | (simp only []; omega) | omega))
        repeat ((conv => whnf); (first | refine Cnd.yes ?_ | refine Cnd.no ?_ | refine And.intro rfl ?_ | refine And.intro (by omega) ?_ | (refine And.intro ?_ ?_; focus (simp only [IntKind.wrap_i64, IntKind.wrap_u64, IntKind.wrap_u32]; omega)) | (refine And.intro ?_ ?_; focus (simp only [zl1, zl2, zl3, zl4, zl5, zl6, zl7, zl8, zl9] <;> omega))))
        conv => whnf
        exact ⟨(i + 1, k), ⟨hin, KeepS.no h hk⟩, rfl, rfl, (tmkK_eq _ _ _ _).mpr rfl, rfl⟩
    · obtain rfl : i = L.length := by have := of_decide_eq_false hge; omega
      skip
      have hle := hk.le
      by_cases h1 : id = -1
      · have hm0 : m = 0 := by rcases hix with h2 | h2 <;> omega
        repeat ((conv => whnf); (first | refine Cnd.yes ?_ | refine Cnd.no ?_ | refine And.intro rfl ?_ | refine And.intro (by omega) ?_ | (refine And.intro ?_ ?_; focus (simp only [IntKind.wrap_i64, IntKind.wrap_u64, IntKind.wrap_u32]; omega)) | (refine And.intro ?_ ?_; focus (simp only [zl1, zl2, zl3, zl4, zl5, zl6, zl7, zl8, zl9] <;> omega)) | (refine Cnd.tt ?_ ?_; focus (first | (apply decide_eq_true; omega) | (simp only [zq1, zq2, zq3, zq4, zq5, zq6, zq7, zq8, zq9, zq10, zq11, zq12] <;> omega) | rfl)) | (refine Cnd.ff ?_ ?_; focus (first | (apply decide_eq_false; omega) | (simp only [zq1, zq2, zq3, zq4, zq5, zq6, zq7, zq8, zq9, zq10, zq11, zq12] <;> omega) | rfl))))
        conv => whnf
        refine ⟨InvS 67 (fun s : Nat => 1 + s) (fun s : Nat => m + s ≤ L.length) (fun s : Nat => [(0, .ptr 0 0 0 0), (5, .v (.int .i64 m)), (7, .slc 2 1 0 (L.length - (m + s))), (8, .v (.int .i64 ((m + s : Nat) - 1 : Int)))]) (fun s : Nat => [Ent.cells 44 [.v (.int .i64 n), .v (.int .i64 nx), .slc 1 2 pre.length L.length], .row true 52 [.int .i64, .bool] ((pre ++ L ++ post).map orow), .row true 3 [.int .i64] ((cutOut L (m + s)).map irow)]) M1, ⟨(fun s : Nat => 1 + s) (L.length - m), [0, 1, 99], tmk 67 0 ((fun s : Nat => [(0, .ptr 0 0 0 0), (5, .v (.int .i64 m)), (7, .slc 2 1 0 (L.length - (m + s))), (8, .v (.int .i64 ((m + s : Nat) - 1 : Int)))]) (L.length - m)), (fun s : Nat => [Ent.cells 44 [.v (.int .i64 n), .v (.int .i64 nx), .slc 1 2 pre.length L.length], .row true 52 [.int .i64, .bool] ((pre ++ L ++ post).map orow), .row true 3 [.int .i64] ((cutOut L (m + s)).map irow)]) (L.length - m), ?_⟩, ?_⟩
        · repeat ((conv => whnf); (first | refine Cnd.yes ?_ | refine Cnd.no ?_ | refine And.intro rfl ?_ | refine And.intro (by omega) ?_ | (refine And.intro ?_ ?_; focus (simp only [IntKind.wrap_i64, IntKind.wrap_u64, IntKind.wrap_u32]; omega)) | (refine And.intro ?_ ?_; focus (simp only [zl1, zl2, zl3, zl4, zl5, zl6, zl7, zl8, zl9] <;> omega))))
          conv => whnf
          refine ⟨by rw [show m + (L.length - m) = L.length by omega]; simp [cutOut], ?_⟩
          repeat ((conv => whnf); (first | refine Cnd.yes ?_ | refine Cnd.no ?_ | refine And.intro rfl ?_ | refine And.intro (by omega) ?_ | (refine And.intro ?_ ?_; focus (simp only [IntKind.wrap_i64, IntKind.wrap_u64, IntKind.wrap_u32]; omega)) | (refine And.intro ?_ ?_; focus (simp only [zl1, zl2, zl3, zl4, zl5, zl6, zl7, zl8, zl9] <;> omega))))
          conv => whnf
          exact ⟨(L.length - m), by omega, rfl, rfl, (tmkK_eq _ _ _ _).mpr rfl, rfl⟩
        · rintro cnt tm hp M1 ⟨j, hC_, rfl, rfl, htm, hhp_⟩
          replace hC_ : m + j ≤ L.length := hC_
          have hj := hC_
          replace htm : tmkK 67 0 [(0, .ptr 0 0 0 0), (5, .v (.int .i64 m)), (7, .slc 2 1 0 (L.length - (m + j))), (8, .v (.int .i64 ((m + j : Nat) - 1 : Int)))] (fun l => tm = l) := htm
          conv at htm => whnf
          subst htm
          replace hhp_ : hp = [Ent.cells 44 [.v (.int .i64 n), .v (.int .i64 nx), .slc 1 2 pre.length L.length], .row true 52 [.int .i64, .bool] ((pre ++ L ++ post).map orow), .row true 3 [.int .i64] ((cutOut L (m + j)).map irow)] := hhp_
          subst hhp_
          repeat ((conv => whnf); (first | refine Cnd.yes ?_ | refine Cnd.no ?_ | refine And.intro rfl ?_ | refine And.intro (by omega) ?_ | (refine And.intro ?_ ?_; focus (simp only [IntKind.wrap_i64, IntKind.wrap_u64, IntKind.wrap_u32]; omega)) | (refine And.intro ?_ ?_; focus (simp only [zl1, zl2, zl3, zl4, zl5, zl6, zl7, zl8, zl9] <;> omega)) | (refine Cnd.tt ?_ ?_; focus (first | (apply decide_eq_true; omega) | (simp only [zq1, zq2, zq3, zq4, zq5, zq6, zq7, zq8, zq9, zq10, zq11, zq12] <;> omega) | rfl)) | (refine Cnd.ff ?_ ?_; focus (first | (apply decide_eq_false; omega) | (simp only [zq1, zq2, zq3, zq4, zq5, zq6, zq7, zq8, zq9, zq10, zq11, zq12] <;> omega) | rfl))))
          conv => whnf
          refine Cnd.mk (fun hlt => ?_) fun hge => ?_
          · obtain ⟨q, hq⟩ : ∃ q, j = q + 1 := ⟨j - 1, by have := of_decide_eq_true hlt; omega⟩
            subst hq
            have hmc : m + q < L.length := by omega
            have ec : toI (cellAt ((pre ++ L ++ post).map orow) (pre.length + (((m + (q + 1) : Nat) : Int) - 1).toNat) 0) = (L.getD (m + q) (0, false)).1 := by
              rw [show (((m + (q + 1) : Nat) : Int) - 1) = ((m + q : Nat) : Int) by omega]
              exact cellX hmc
            have l1 := cutOut_len L (m + (q + 1))
            have n1 : List.take (L.length - (m + (q + 1))) (List.drop 0 ((cutOut L (m + (q + 1))).map irow)) ++ List.take 1 (List.drop 0 [irow (L.getD (m + q) (0, false)).1]) = (cutOut L (m + q)).map irow := by
              rw [List.drop_zero, List.take_of_length_le (by rw [List.length_map, l1]; exact Nat.le_refl _), cutOut_next hmc, List.map_append]; rfl
            repeat ((conv => whnf); (first | refine Cnd.yes ?_ | refine Cnd.no ?_ | refine And.intro rfl ?_ | refine And.intro (by omega) ?_ | (refine And.intro ?_ ?_; focus (simp only [IntKind.wrap_i64, IntKind.wrap_u64, IntKind.wrap_u32]; omega)) | (refine And.intro ?_ ?_; focus (simp only [zl1, zl2, zl3, zl4, zl5, zl6, zl7, zl8, zl9] <;> omega)) | (refine Cnd.tt ?_ ?_; focus (first | (apply decide_eq_true; omega) | (simp only [zq1, zq2, zq3, zq4, zq5, zq6, zq7, zq8, zq9, zq10, zq11, zq12] <;> omega) | rfl)) | (refine Cnd.ff ?_ ?_; focus (first | (apply decide_eq_false; omega) | (simp only [zq1, zq2, zq3, zq4, zq5, zq6, zq7, zq8, zq9, zq10, zq11, zq12] <;> omega) | rfl))))
            conv => whnf
            rw [ec]
            repeat ((conv => whnf); (first | refine Cnd.yes ?_ | refine Cnd.no ?_ | refine And.intro rfl ?_ | refine And.intro (by omega) ?_ | (refine And.intro ?_ ?_; focus (simp only [IntKind.wrap_i64, IntKind.wrap_u64, IntKind.wrap_u32]; omega)) | (refine And.intro ?_ ?_; focus (simp only [zl1, zl2, zl3, zl4, zl5, zl6, zl7, zl8, zl9] <;> omega)) | (refine Cnd.tt ?_ ?_; focus (first | (apply decide_eq_true; omega) | (simp only [zq1, zq2, zq3, zq4, zq5, zq6, zq7, zq8, zq9, zq10, zq11, zq12] <;> omega) | rfl)) | (refine Cnd.ff ?_ ?_; focus (first | (apply decide_eq_false; omega) | (simp only [zq1, zq2, zq3, zq4, zq5, zq6, zq7, zq8, zq9, zq10, zq11, zq12] <;> omega) | rfl))))
            conv => whnf
            (refine ⟨(fun s : Nat => 1 + s) (q), [0, 1, 4], tmk 67 0 ((fun s : Nat => [(0, .ptr 0 0 0 0), (5, .v (.int .i64 m)), (7, .slc 2 1 0 (L.length - (m + s))), (8, .v (.int .i64 ((m + s : Nat) - 1 : Int)))]) (q)), (fun s : Nat => [Ent.cells 44 [.v (.int .i64 n), .v (.int .i64 nx), .slc 1 2 pre.length L.length], .row true 52 [.int .i64, .bool] ((pre ++ L ++ post).map orow), .row true 3 [.int .i64] ((cutOut L (m + s)).map irow)]) (q), ?_, ?_⟩; focus (first | (simp only []; omega) | omega))
            repeat ((conv => whnf); (first | refine Cnd.yes ?_ | refine Cnd.no ?_ | refine And.intro rfl ?_ | refine And.intro (by omega) ?_ | (refine And.intro ?_ ?_; focus (simp only [IntKind.wrap_i64, IntKind.wrap_u64, IntKind.wrap_u32]; omega)) | (refine And.intro ?_ ?_; focus (simp only [zl1, zl2, zl3, zl4, zl5, zl6, zl7, zl8, zl9] <;> omega))))
            conv => whnf
            refine ⟨n1, ?_⟩
            repeat ((conv => whnf); (first | refine Cnd.yes ?_ | refine Cnd.no ?_ | refine And.intro rfl ?_ | refine And.intro (by omega) ?_ | (refine And.intro ?_ ?_; focus (simp only [IntKind.wrap_i64, IntKind.wrap_u64, IntKind.wrap_u32]; omega)) | (refine And.intro ?_ ?_; focus (simp only [zl1, zl2, zl3, zl4, zl5, zl6, zl7, zl8, zl9] <;> omega))))
            conv => whnf
            exact ⟨q, by omega, rfl, rfl, (tmkK_eq _ _ _ _).mpr rfl, rfl⟩
          · obtain rfl : j = 0 := by have := of_decide_eq_false hge; omega
            repeat ((conv => whnf); (first | refine Cnd.yes ?_ | refine Cnd.no ?_ | refine And.intro rfl ?_ | refine And.intro (by omega) ?_ | (refine And.intro ?_ ?_; focus (simp only [IntKind.wrap_i64, IntKind.wrap_u64, IntKind.wrap_u32]; omega)) | (refine And.intro ?_ ?_; focus (simp only [zl1, zl2, zl3, zl4, zl5, zl6, zl7, zl8, zl9] <;> omega)) | (refine Cnd.tt ?_ ?_; focus (first | (apply decide_eq_true; omega) | (simp only [zq1, zq2, zq3, zq4, zq5, zq6, zq7, zq8, zq9, zq10, zq11, zq12] <;> omega) | rfl)) | (refine Cnd.ff ?_ ?_; focus (first | (apply decide_eq_false; omega) | (simp only [zq1, zq2, zq3, zq4, zq5, zq6, zq7, zq8, zq9, zq10, zq11, zq12] <;> omega) | rfl))))
            conv => whnf
            refine ⟨[0, 1, 2], .slc 2 1 0 (L.length - m), [.cells 44 [.v (.int .i64 n), .v (.int .i64 nx), .slc 1 2 pre.length m], .row true 52 [.int .i64, .bool] ((pre ++ L ++ post).map orow), .row true 3 [.int .i64] ((cutOut L m).map irow)], ?_⟩
            repeat ((conv => whnf); (first | refine Cnd.yes ?_ | refine Cnd.no ?_ | refine And.intro rfl ?_ | refine And.intro (by omega) ?_ | (refine And.intro ?_ ?_; focus (simp only [IntKind.wrap_i64, IntKind.wrap_u64, IntKind.wrap_u32]; omega)) | (refine And.intro ?_ ?_; focus (simp only [zl1, zl2, zl3, zl4, zl5, zl6, zl7, zl8, zl9] <;> omega))))
            conv => whnf
            exact hK
      · obtain rfl : k = m := by
          rcases hix with h2 | h2
          · omega
          · exact h2.2 k hk
        repeat ((conv => whnf); (first | refine Cnd.yes ?_ | refine Cnd.no ?_ | refine And.intro rfl ?_ | refine And.intro (by omega) ?_ | (refine And.intro ?_ ?_; focus (simp only [IntKind.wrap_i64, IntKind.wrap_u64, IntKind.wrap_u32]; omega)) | (refine And.intro ?_ ?_; focus (simp only [zl1, zl2, zl3, zl4, zl5, zl6, zl7, zl8, zl9] <;> omega)) | (refine Cnd.tt ?_ ?_; focus (first | (apply decide_eq_true; omega) | (simp only [zq1, zq2, zq3, zq4, zq5, zq6, zq7, zq8, zq9, zq10, zq11, zq12] <;> omega) | rfl)) | (refine Cnd.ff ?_ ?_; focus (first | (apply decide_eq_false; omega) | (simp only [zq1, zq2, zq3, zq4, zq5, zq6, zq7, zq8, zq9, zq10, zq11, zq12] <;> omega) | rfl))))
        conv => whnf
        refine ⟨InvS 67 (fun s : Nat => 1 + s) (fun s : Nat => m + s ≤ L.length) (fun s : Nat => [(0, .ptr 0 0 0 0), (5, .v (.int .i64 m)), (7, .slc 2 1 0 (L.length - (m + s))), (8, .v (.int .i64 ((m + s : Nat) - 1 : Int)))]) (fun s : Nat => [Ent.cells 44 [.v (.int .i64 n), .v (.int .i64 nx), .slc 1 2 pre.length L.length], .row true 52 [.int .i64, .bool] ((pre ++ L ++ post).map orow), .row true 3 [.int .i64] ((cutOut L (m + s)).map irow)]) M1, ⟨(fun s : Nat => 1 + s) (L.length - m), [0, 1, 99], tmk 67 0 ((fun s : Nat => [(0, .ptr 0 0 0 0), (5, .v (.int .i64 m)), (7, .slc 2 1 0 (L.length - (m + s))), (8, .v (.int .i64 ((m + s : Nat) - 1 : Int)))]) (L.length - m)), (fun s : Nat => [Ent.cells 44 [.v (.int .i64 n), .v (.int .i64 nx), .slc 1 2 pre.length L.length], .row true 52 [.int .i64, .bool] ((pre ++ L ++ post).map orow), .row true 3 [.int .i64] ((cutOut L (m + s)).map irow)]) (L.length - m), ?_⟩, ?_⟩
        · repeat ((conv => whnf); (first | refine Cnd.yes ?_ | refine Cnd.no ?_ | refine And.intro rfl ?_ | refine And.intro (by omega) ?_ | (refine And.intro ?_ ?_; focus (simp only [IntKind.wrap_i64, IntKind.wrap_u64, IntKind.wrap_u32]; omega)) | (refine And.intro ?_ ?_; focus (simp only [zl1, zl2, zl3, zl4, zl5, zl6, zl7, zl8, zl9] <;> omega))))
          conv => whnf
          refine ⟨by rw [show m + (L.length - m) = L.length by omega]; simp [cutOut], ?_⟩
          repeat ((conv => whnf); (first | refine Cnd.yes ?_ | refine Cnd.no ?_ | refine And.intro rfl ?_ | refine And.intro (by omega) ?_ | (refine And.intro ?_ ?_; focus (simp only [IntKind.wrap_i64, IntKind.wrap_u64, IntKind.wrap_u32]; omega)) | (refine And.intro ?_ ?_; focus (simp only [zl1, zl2, zl3, zl4, zl5, zl6, zl7, zl8, zl9] <;> omega))))
          conv => whnf
          exact ⟨(L.length - m), by omega, rfl, rfl, (tmkK_eq _ _ _ _).mpr rfl, rfl⟩
        · rintro cnt tm hp M1 ⟨j, hC_, rfl, rfl, htm, hhp_⟩
          replace hC_ : m + j ≤ L.length := hC_
          have hj := hC_
          replace htm : tmkK 67 0 [(0, .ptr 0 0 0 0), (5, .v (.int .i64 m)), (7, .slc 2 1 0 (L.length - (m + j))), (8, .v (.int .i64 ((m + j : Nat) - 1 : Int)))] (fun l => tm = l) := htm
          conv at htm => whnf
          subst htm
          replace hhp_ : hp = [Ent.cells 44 [.v (.int .i64 n), .v (.int .i64 nx), .slc 1 2 pre.length L.length], .row true 52 [.int .i64, .bool] ((pre ++ L ++ post).map orow), .row true 3 [.int .i64] ((cutOut L (m + j)).map irow)] := hhp_
          subst hhp_
          repeat ((conv => whnf); (first | refine Cnd.yes ?_ | refine Cnd.no ?_ | refine And.intro rfl ?_ | refine And.intro (by omega) ?_ | (refine And.intro ?_ ?_; focus (simp only [IntKind.wrap_i64, IntKind.wrap_u64, IntKind.wrap_u32]; omega)) | (refine And.intro ?_ ?_; focus (simp only [zl1, zl2, zl3, zl4, zl5, zl6, zl7, zl8, zl9] <;> omega)) | (refine Cnd.tt ?_ ?_; focus (first | (apply decide_eq_true; omega) | (simp only [zq1, zq2, zq3, zq4, zq5, zq6, zq7, zq8, zq9, zq10, zq11, zq12] <;> omega) | rfl)) | (refine Cnd.ff ?_ ?_; focus (first | (apply decide_eq_false; omega) | (simp only [zq1, zq2, zq3, zq4, zq5, zq6, zq7, zq8, zq9, zq10, zq11, zq12] <;> omega) | rfl))))
          conv => whnf
          refine Cnd.mk (fun hlt => ?_) fun hge => ?_
          · obtain ⟨q, hq⟩ : ∃ q, j = q + 1 := ⟨j - 1, by have := of_decide_eq_true hlt; omega⟩
            subst hq
            have hmc : m + q < L.length := by omega
            have ec : toI (cellAt ((pre ++ L ++ post).map orow) (pre.length + (((m + (q + 1) : Nat) : Int) - 1).toNat) 0) = (L.getD (m + q) (0, false)).1 := by
              rw [show (((m + (q + 1) : Nat) : Int) - 1) = ((m + q : Nat) : Int) by omega]
              exact cellX hmc
            have l1 := cutOut_len L (m + (q + 1))
            have n1 : List.take (L.length - (m + (q + 1))) (List.drop 0 ((cutOut L (m + (q + 1))).map irow)) ++ List.take 1 (List.drop 0 [irow (L.getD (m + q) (0, false)).1]) = (cutOut L (m + q)).map irow := by
              rw [List.drop_zero, List.take_of_length_le (by rw [List.length_map, l1]; exact Nat.le_refl _), cutOut_next hmc, List.map_append]; rfl
            repeat ((conv => whnf); (first | refine Cnd.yes ?_ | refine Cnd.no ?_ | refine And.intro rfl ?_ | refine And.intro (by omega) ?_ | (refine And.intro ?_ ?_; focus (simp only [IntKind.wrap_i64, IntKind.wrap_u64, IntKind.wrap_u32]; omega)) | (refine And.intro ?_ ?_; focus (simp only [zl1, zl2, zl3, zl4, zl5, zl6, zl7, zl8, zl9] <;> omega)) | (refine Cnd.tt ?_ ?_; focus (first | (apply decide_eq_true; omega) | (simp only [zq1, zq2, zq3, zq4, zq5, zq6, zq7, zq8, zq9, zq10, zq11, zq12] <;> omega) | rfl)) | (refine Cnd.ff ?_ ?_; focus (first | (apply decide_eq_false; omega) | (simp only [zq1, zq2, zq3, zq4, zq5, zq6, zq7, zq8, zq9, zq10, zq11, zq12] <;> omega) | rfl))))
            conv => whnf
            rw [ec]
            repeat ((conv => whnf); (first | refine Cnd.yes ?_ | refine Cnd.no ?_ | refine And.intro rfl ?_ | refine And.intro (by omega) ?_ | (refine And.intro ?_ ?_; focus (simp only [IntKind.wrap_i64, IntKind.wrap_u64, IntKind.wrap_u32]; omega)) | (refine And.intro ?_ ?_; focus (simp only [zl1, zl2, zl3, zl4, zl5, zl6, zl7, zl8, zl9] <;> omega)) | (refine Cnd.tt ?_ ?_; focus (first | (apply decide_eq_true; omega) | (simp only [zq1, zq2, zq3, zq4, zq5, zq6, zq7, zq8, zq9, zq10, zq11, zq12] <;> omega) | rfl)) | (refine Cnd.ff ?_ ?_; focus (first | (apply decide_eq_false; omega) | (simp only [zq1, zq2, zq3, zq4, zq5, zq6, zq7, zq8, zq9, zq10, zq11, zq12] <;> omega) | rfl))))
            conv => whnf
            (refine ⟨(fun s : Nat => 1 + s) (q), [0, 1, 4], tmk 67 0 ((fun s : Nat => [(0, .ptr 0 0 0 0), (5, .v (.int .i64 m)), (7, .slc 2 1 0 (L.length - (m + s))), (8, .v (.int .i64 ((m + s : Nat) - 1 : Int)))]) (q)), (fun s : Nat => [Ent.cells 44 [.v (.int .i64 n), .v (.int .i64 nx), .slc 1 2 pre.length L.length], .row true 52 [.int .i64, .bool] ((pre ++ L ++ post).map orow), .row true 3 [.int .i64] ((cutOut L (m + s)).map irow)]) (q), ?_, ?_⟩; focus (first | (simp only []; omega) | omega))
            repeat ((conv => whnf); (first | refine Cnd.yes ?_ | refine Cnd.no ?_ | refine And.intro rfl ?_ | refine And.intro (by omega) ?_ | (refine And.intro ?_ ?_; focus (simp only [IntKind.wrap_i64, IntKind.wrap_u64, IntKind.wrap_u32]; omega)) | (refine And.intro ?_ ?_; focus (simp only [zl1, zl2, zl3, zl4, zl5, zl6, zl7, zl8, zl9] <;> omega))))
            conv => whnf
            refine ⟨n1, ?_⟩
            repeat ((conv => whnf); (first | refine Cnd.yes ?_ | refine Cnd.no ?_ | refine And.intro rfl ?_ | refine And.intro (by omega) ?_ | (refine And.intro ?_ ?_; focus (simp only [IntKind.wrap_i64, IntKind.wrap_u64, IntKind.wrap_u32]; omega)) | (refine And.intro ?_ ?_; focus (simp only [zl1, zl2, zl3, zl4, zl5, zl6, zl7, zl8, zl9] <;> omega))))
            conv => whnf
            exact ⟨q, by omega, rfl, rfl, (tmkK_eq _ _ _ _).mpr rfl, rfl⟩
          · obtain rfl : j = 0 := by have := of_decide_eq_false hge; omega
            repeat ((conv => whnf); (first | refine Cnd.yes ?_ | refine Cnd.no ?_ | refine And.intro rfl ?_ | refine And.intro (by omega) ?_ | (refine And.intro ?_ ?_; focus (simp only [IntKind.wrap_i64, IntKind.wrap_u64, IntKind.wrap_u32]; omega)) | (refine And.intro ?_ ?_; focus (simp only [zl1, zl2, zl3, zl4, zl5, zl6, zl7, zl8, zl9] <;> omega)) | (refine Cnd.tt ?_ ?_; focus (first | (apply decide_eq_true; omega) | (simp only [zq1, zq2, zq3, zq4, zq5, zq6, zq7, zq8, zq9, zq10, zq11, zq12] <;> omega) | rfl)) | (refine Cnd.ff ?_ ?_; focus (first | (apply decide_eq_false; omega) | (simp only [zq1, zq2, zq3, zq4, zq5, zq6, zq7, zq8, zq9, zq10, zq11, zq12] <;> omega) | rfl))))
            conv => whnf
            refine ⟨[0, 1, 2], .slc 2 1 0 (L.length - m), [.cells 44 [.v (.int .i64 n), .v (.int .i64 nx), .slc 1 2 pre.length m], .row true 52 [.int .i64, .bool] ((pre ++ L ++ post).map orow), .row true 3 [.int .i64] ((cutOut L m).map irow)], ?_⟩
            repeat ((conv => whnf); (first | refine Cnd.yes ?_ | refine Cnd.no ?_ | refine And.intro rfl ?_ | refine And.intro (by omega) ?_ | (refine And.intro ?_ ?_; focus (simp only [IntKind.wrap_i64, IntKind.wrap_u64, IntKind.wrap_u32]; omega)) | (refine And.intro ?_ ?_; focus (simp only [zl1, zl2, zl3, zl4, zl5, zl6, zl7, zl8, zl9] <;> omega))))
            conv => whnf
            exact hK
theorem xcutno_run (M : HL) (K : SV → List Ent → HL → Prop) (n nx id : Int) (pre L post : List (Int × Bool)) (hl : L.length ≤ 1000) (hid : id ≠ -1) (hix : ∀ k', KeepS id L L.length k' → k' = -1)
    (hK : K (.v (.slice none 0 0)) (xHp true n nx pre L post) M) :
    runF G0 pf20 [.ptr 0 0 0 0, .v (.int .i64 id)] (xHp true n nx pre L post) M fun v hp2 M2 => ∃ m v' hp', Wk (llen (xHp true n nx pre L post)) m [v] hp2 [v'] hp' (K v' hp' M2) := by
  repeat ((conv => whnf); (first | refine Cnd.yes ?_ | refine Cnd.no ?_ | refine And.intro rfl ?_ | refine And.intro (by omega) ?_ | (refine And.intro ?_ ?_; focus (simp only [IntKind.wrap_i64, IntKind.wrap_u64, IntKind.wrap_u32]; omega)) | (refine And.intro ?_ ?_; focus (simp only [zl1, zl2, zl3, zl4, zl5, zl6, zl7, zl8, zl9] <;> omega)) | (refine Cnd.tt ?_ ?_; focus (first | (apply decide_eq_true; omega) | (simp only [zq1, zq2, zq3, zq4, zq5, zq6, zq7, zq8, zq9, zq10, zq11, zq12] <;> omega) | rfl)) | (refine Cnd.ff ?_ ?_; focus (first | (apply decide_eq_false; omega) | (simp only [zq1, zq2, zq3, zq4, zq5, zq6, zq7, zq8, zq9, zq10, zq11, zq12] <;> omega) | rfl))))
  conv => whnf
  refine ⟨InvS 67 (fun s : Nat × Int => L.length - s.1) (fun s : Nat × Int => s.1 ≤ L.length ∧ KeepS id L s.1 s.2) (fun s : Nat × Int => [(0, .ptr 0 0 0 0), (1, .v (.int .i64 id)), (5, .v (.int .i64 s.2)), (6, .v (.int .i64 s.1))]) (fun s : Nat × Int => xHp true n nx pre L post) M, ⟨(fun s : Nat × Int => L.length - s.1) (0, -1), [0, 1], tmk 67 0 ((fun s : Nat × Int => [(0, .ptr 0 0 0 0), (1, .v (.int .i64 id)), (5, .v (.int .i64 s.2)), (6, .v (.int .i64 s.1))]) (0, -1)), (fun s : Nat × Int => xHp true n nx pre L post) (0, -1), ?_⟩, ?_⟩
  · repeat ((conv => whnf); (first | refine Cnd.yes ?_ | refine Cnd.no ?_ | refine And.intro rfl ?_ | refine And.intro (by omega) ?_ | (refine And.intro ?_ ?_; focus (simp only [IntKind.wrap_i64, IntKind.wrap_u64, IntKind.wrap_u32]; omega)) | (refine And.intro ?_ ?_; focus (simp only [zl1, zl2, zl3, zl4, zl5, zl6, zl7, zl8, zl9] <;> omega))))
    conv => whnf
    exact ⟨(0, -1), ⟨Nat.zero_le _, .inl ⟨rfl, fun j hj => by omega⟩⟩, rfl, rfl, (tmkK_eq _ _ _ _).mpr rfl, rfl⟩
  · rintro cnt tm hp M1 ⟨⟨i,k⟩, hC_, rfl, rfl, htm, hhp_⟩
    replace hC_ : i ≤ L.length ∧ KeepS id L i k := hC_
    obtain ⟨hi, hk⟩ := hC_
    replace htm : tmkK 67 0 [(0, .ptr 0 0 0 0), (1, .v (.int .i64 id)), (5, .v (.int .i64 k)), (6, .v (.int .i64 i))] (fun l => tm = l) := htm
    conv at htm => whnf
    subst htm
    replace hhp_ : hp = xHp true n nx pre L post := hhp_
    subst hhp_
    repeat ((conv => whnf); (first | refine Cnd.yes ?_ | refine Cnd.no ?_ | refine And.intro rfl ?_ | refine And.intro (by omega) ?_ | (refine And.intro ?_ ?_; focus (simp only [IntKind.wrap_i64, IntKind.wrap_u64, IntKind.wrap_u32]; omega)) | (refine And.intro ?_ ?_; focus (simp only [zl1, zl2, zl3, zl4, zl5, zl6, zl7, zl8, zl9] <;> omega)) | (refine Cnd.tt ?_ ?_; focus (first | (apply decide_eq_true; omega) | (simp only [zq1, zq2, zq3, zq4, zq5, zq6, zq7, zq8, zq9, zq10, zq11, zq12] <;> omega) | rfl)) | (refine Cnd.ff ?_ ?_; focus (first | (apply decide_eq_false; omega) | (simp only [zq1, zq2, zq3, zq4, zq5, zq6, zq7, zq8, zq9, zq10, zq11, zq12] <;> omega) | rfl))))
    conv => whnf
    refine Cnd.mk (fun hlt => ?_) fun hge => ?_
    · have hin : i < L.length := by have := of_decide_eq_true hlt; omega
      have e0 := cellX (pre := pre) (post := post) hin
      repeat ((conv => whnf); (first | refine Cnd.yes ?_ | refine Cnd.no ?_ | refine And.intro rfl ?_ | refine And.intro (by omega) ?_ | (refine And.intro ?_ ?_; focus (simp only [IntKind.wrap_i64, IntKind.wrap_u64, IntKind.wrap_u32]; omega)) | (refine And.intro ?_ ?_; focus (simp only [zl1, zl2, zl3, zl4, zl5, zl6, zl7, zl8, zl9] <;> omega)) | (refine Cnd.tt ?_ ?_; focus (first | (apply decide_eq_true; omega) | (simp only [zq1, zq2, zq3, zq4, zq5, zq6, zq7, zq8, zq9, zq10, zq11, zq12] <;> omega) | rfl)) | (refine Cnd.ff ?_ ?_; focus (first | (apply decide_eq_false; omega) | (simp only [zq1, zq2, zq3, zq4, zq5, zq6, zq7, zq8, zq9, zq10, zq11, zq12] <;> omega) | rfl))))
      conv => whnf
      rw [e0]
      by_cases h : (L.getD i (0, false)).1 = id
      · repeat ((conv => whnf); (first | refine Cnd.yes ?_ | refine Cnd.no ?_ | refine And.intro rfl ?_ | refine And.intro (by omega) ?_ | (refine And.intro ?_ ?_; focus (simp only [IntKind.wrap_i64, IntKind.wrap_u64, IntKind.wrap_u32]; omega)) | (refine And.intro ?_ ?_; focus (simp only [zl1, zl2, zl3, zl4, zl5, zl6, zl7, zl8, zl9] <;> omega)) | (refine Cnd.tt ?_ ?_; focus (first | (apply decide_eq_true; omega) | (simp only [zq1, zq2, zq3, zq4, zq5, zq6, zq7, zq8, zq9, zq10, zq11, zq12] <;> omega) | rfl)) | (refine Cnd.ff ?_ ?_; focus (first | (apply decide_eq_false; omega) | (simp only [zq1, zq2, zq3, zq4, zq5, zq6, zq7, zq8, zq9, zq10, zq11, zq12] <;> omega) | rfl))))
        conv => whnf
        (refine ⟨(fun s : Nat × Int => L.length - s.1) ((i + 1, (i : Int) + 1)), [0, 1], tmk 67 0 ((fun s : Nat × Int => [(0, .ptr 0 0 0 0), (1, .v (.int .i64 id)), (5, .v (.int .i64 s.2)), (6, .v (.int .i64 s.1))]) ((i + 1, (i : Int) + 1))), (fun s : Nat × Int => xHp true n nx pre L post) ((i + 1, (i : Int) + 1)), ?_, ?_⟩; focus (first | (simp only []; omega) | omega))
        repeat ((conv => whnf); (first | refine Cnd.yes ?_ | refine Cnd.no ?_ | refine And.intro rfl ?_ | refine And.intro (by omega) ?_ | (refine And.intro ?_ ?_; focus (simp only [IntKind.wrap_i64, IntKind.wrap_u64, IntKind.wrap_u32]; omega)) | (refine And.intro ?_ ?_; focus (simp only [zl1, zl2, zl3, zl4, zl5, zl6, zl7, zl8, zl9] <;> omega))))
        conv => whnf
        exact ⟨(i + 1, (i : Int) + 1), ⟨hin, KeepS.hit (k := k) h⟩, rfl, rfl, (tmkK_eq _ _ _ _).mpr rfl, rfl⟩
      · repeat ((conv => whnf); (first | refine Cnd.yes ?_ | refine Cnd.no ?_ | refine And.intro rfl ?_ | refine And.intro (by omega) ?_ | (refine And.intro ?_ ?_; focus (simp only [IntKind.wrap_i64, IntKind.wrap_u64, IntKind.wrap_u32]; omega)) | (refine And.intro ?_ ?_; focus (simp only [zl1, zl2, zl3, zl4, zl5, zl6, zl7, zl8, zl9] <;> omega)) | (refine Cnd.tt ?_ ?_; focus (first | (apply decide_eq_true; omega) | (simp only [zq1, zq2, zq3, zq4, zq5, zq6, zq7, zq8, zq9, zq10, zq11, zq12] <;> omega) | rfl)) | (refine Cnd.ff ?_ ?_; focus (first | (apply decide_eq_false; omega) | (simp only [zq1, zq2, zq3, zq4, zq5, zq6, zq7, zq8, zq9, zq10, zq11, zq12] <;> omega) | rfl))))
        conv => whnf
        (refine ⟨(fun s : Nat × Int => L.length - s.1) ((i + 1, k)), [0, 1], tmk 67 0 ((fun s : Nat × Int => [(0, .ptr 0 0 0 0), (1, .v (.int .i64 id)), (5, .v (.int .i64 s.2)), (6, .v (.int .i64 s.1))]) ((i + 1, k))), (fun s : Nat × Int => xHp true n nx pre L post) ((i + 1, k)), ?_, ?_⟩; focus (first | (simp only []; omega) | omega))
        repeat ((conv => whnf); (first | refine Cnd.yes ?_ | refine Cnd.no ?_ | refine And.intro rfl ?_ | refine And.intro (by omega) ?_ | (refine And.intro ?_ ?_; focus (simp only [IntKind.wrap_i64, IntKind.wrap_u64, IntKind.wrap_u32]; omega)) | (refine And.intro ?_ ?_; focus (simp only [zl1, zl2, zl3, zl4, zl5, zl6, zl7, zl8, zl9] <;> omega))))
        conv => whnf
        exact ⟨(i + 1, k), ⟨hin, KeepS.no h hk⟩, rfl, rfl, (tmkK_eq _ _ _ _).mpr rfl, rfl⟩
    · obtain rfl : i = L.length := by have := of_decide_eq_false hge; omega
      skip
      obtain rfl := hix k hk
      repeat ((conv => whnf); (first | refine Cnd.yes ?_ | refine Cnd.no ?_ | refine And.intro rfl ?_ | refine And.intro (by omega) ?_ | (refine And.intro ?_ ?_; focus (simp only [IntKind.wrap_i64, IntKind.wrap_u64, IntKind.wrap_u32]; omega)) | (refine And.intro ?_ ?_; focus (simp only [zl1, zl2, zl3, zl4, zl5, zl6, zl7, zl8, zl9] <;> omega)) | (refine Cnd.tt ?_ ?_; focus (first | (apply decide_eq_true; omega) | (simp only [zq1, zq2, zq3, zq4, zq5, zq6, zq7, zq8, zq9, zq10, zq11, zq12] <;> omega) | rfl)) | (refine Cnd.ff ?_ ?_; focus (first | (apply decide_eq_false; omega) | (simp only [zq1, zq2, zq3, zq4, zq5, zq6, zq7, zq8, zq9, zq10, zq11, zq12] <;> omega) | rfl))))
      conv => whnf
      refine ⟨[0, 1], .v (.slice none 0 0), xHp true n nx pre L post, ?_⟩
      repeat ((conv => whnf); (first | refine Cnd.yes ?_ | refine Cnd.no ?_ | refine And.intro rfl ?_ | refine And.intro (by omega) ?_ | (refine And.intro ?_ ?_; focus (simp only [IntKind.wrap_i64, IntKind.wrap_u64, IntKind.wrap_u32]; omega)) | (refine And.intro ?_ ?_; focus (simp only [zl1, zl2, zl3, zl4, zl5, zl6, zl7, zl8, zl9] <;> omega))))
      conv => whnf
      exact hK
def xcutS : Vc.Spec := fun args hp _ K => (∃ (n nx id : Int) (pre L post : List (Int × Bool)) (m : Nat), args = [.ptr 0 0 0 0, .v (.int .i64 id)] ∧ hp = xHp true n nx pre L post ∧ L.length ≤ 1000 ∧ m ≤ L.length ∧ (id = -1 ∧ m = 0 ∨ id ≠ -1 ∧ ∀ k', KeepS id L L.length k' → k' = m) ∧
    K (.slc 2 1 0 (L.length - m)) [.cells 44 [.v (.int .i64 n), .v (.int .i64 nx), .slc 1 2 pre.length m], .row true 52 [.int .i64, .bool] ((pre ++ L ++ post).map orow), .row true 3 [.int .i64] ((cutOut L m).map irow)]) ∨
  ∃ (n nx id : Int) (pre L post : List (Int × Bool)), args = [.ptr 0 0 0 0, .v (.int .i64 id)] ∧ hp = xHp true n nx pre L post ∧ L.length ≤ 1000 ∧ id ≠ -1 ∧ (∀ k', KeepS id L L.length k' → k' = -1) ∧ K (.v (.slice none 0 0)) (xHp true n nx pre L post)
theorem xcut_ok : SOK Tryd.prog 20 xcutS := by
  refine TOK.weaken (TOK.out (runF_eq G0_ok mixed at20.1 at20.2 pf20_eq)) fun args hp M K h => ?_
  rcases h with ⟨n, nx, id, pre, L, post, m, rfl, rfl, h1, h2, h3, h4⟩ | ⟨n, nx, id, pre, L, post, rfl, rfl, h1, h2, h3, h4⟩
  · exact xcut_run M K n nx id pre L post h1 m h2 h3 h4
  · exact xcutno_run M K n nx id pre L post h1 h2 h3 h4
theorem xids_run (M : HL) (K : SV → List Ent → HL → Prop) (n nx : Int) (pre L post : List (Int × Bool)) (hl : L.length ≤ 1000)
    (hK : K (.slc 2 1 0 L.length) (xHp false n nx pre L post ++ [.row true 3 [.int .i64] ((idsN L L.length).map irow)]) M) :
    runF G0 pf23 [.ptr 0 0 0 0] (xHp false n nx pre L post) M fun v hp2 M2 => ∃ m v' hp', Wk (llen (xHp false n nx pre L post)) m [v] hp2 [v'] hp' (K v' hp' M2) := by
  repeat ((conv => whnf); (first | refine Cnd.yes ?_ | refine Cnd.no ?_ | refine And.intro rfl ?_ | refine And.intro (by omega) ?_ | (refine And.intro ?_ ?_; focus (simp only [IntKind.wrap_i64, IntKind.wrap_u64, IntKind.wrap_u32]; omega)) | (refine And.intro ?_ ?_; focus (simp only [zl1, zl2, zl3, zl4, zl5, zl6, zl7, zl8, zl9] <;> omega)) | (refine Cnd.tt ?_ ?_; focus (first | (apply decide_eq_true; omega) | (simp only [zq1, zq2, zq3, zq4, zq5, zq6, zq7, zq8, zq9, zq10, zq11, zq12] <;> omega) | rfl)) | (refine Cnd.ff ?_ ?_; focus (first | (apply decide_eq_false; omega) | (simp only [zq1, zq2, zq3, zq4, zq5, zq6, zq7, zq8, zq9, zq10, zq11, zq12] <;> omega) | rfl))))
  conv => whnf
  refine ⟨InvS 26 (fun s : Nat => L.length - s) (fun s : Nat => s ≤ L.length) (fun s : Nat => [(0, .ptr 0 0 0 0), (3, .slc 2 1 0 s), (4, .v (.int .i64 s))]) (fun s : Nat => [Ent.rcells 44 [.v (.int .i64 n), .v (.int .i64 nx), .slc 1 2 pre.length L.length], .row false 52 [.int .i64, .bool] ((pre ++ L ++ post).map orow), .row true 3 [.int .i64] ((idsN L s).map irow)]) M, ⟨(fun s : Nat => L.length - s) 0, [0, 1, 9], tmk 26 0 ((fun s : Nat => [(0, .ptr 0 0 0 0), (3, .slc 2 1 0 s), (4, .v (.int .i64 s))]) 0), (fun s : Nat => [Ent.rcells 44 [.v (.int .i64 n), .v (.int .i64 nx), .slc 1 2 pre.length L.length], .row false 52 [.int .i64, .bool] ((pre ++ L ++ post).map orow), .row true 3 [.int .i64] ((idsN L s).map irow)]) 0, ?_⟩, ?_⟩
  · repeat ((conv => whnf); (first | refine Cnd.yes ?_ | refine Cnd.no ?_ | refine And.intro rfl ?_ | refine And.intro (by omega) ?_ | (refine And.intro ?_ ?_; focus (simp only [IntKind.wrap_i64, IntKind.wrap_u64, IntKind.wrap_u32]; omega)) | (refine And.intro ?_ ?_; focus (simp only [zl1, zl2, zl3, zl4, zl5, zl6, zl7, zl8, zl9] <;> omega))))
    conv => whnf
    exact ⟨0, Nat.zero_le _, rfl, rfl, (tmkK_eq _ _ _ _).mpr rfl, rfl⟩
  · rintro cnt tm hp M1 ⟨i, hC_, rfl, rfl, htm, hhp_⟩
    replace hC_ : i ≤ L.length := hC_
    have hi := hC_
    replace htm : tmkK 26 0 [(0, .ptr 0 0 0 0), (3, .slc 2 1 0 i), (4, .v (.int .i64 i))] (fun l => tm = l) := htm
    conv at htm => whnf
    subst htm
    replace hhp_ : hp = [Ent.rcells 44 [.v (.int .i64 n), .v (.int .i64 nx), .slc 1 2 pre.length L.length], .row false 52 [.int .i64, .bool] ((pre ++ L ++ post).map orow), .row true 3 [.int .i64] ((idsN L i).map irow)] := hhp_
    subst hhp_
    repeat ((conv => whnf); (first | refine Cnd.yes ?_ | refine Cnd.no ?_ | refine And.intro rfl ?_ | refine And.intro (by omega) ?_ | (refine And.intro ?_ ?_; focus (simp only [IntKind.wrap_i64, IntKind.wrap_u64, IntKind.wrap_u32]; omega)) | (refine And.intro ?_ ?_; focus (simp only [zl1, zl2, zl3, zl4, zl5, zl6, zl7, zl8, zl9] <;> omega)) | (refine Cnd.tt ?_ ?_; focus (first | (apply decide_eq_true; omega) | (simp only [zq1, zq2, zq3, zq4, zq5, zq6, zq7, zq8, zq9, zq10, zq11, zq12] <;> omega) | rfl)) | (refine Cnd.ff ?_ ?_; focus (first | (apply decide_eq_false; omega) | (simp only [zq1, zq2, zq3, zq4, zq5, zq6, zq7, zq8, zq9, zq10, zq11, zq12] <;> omega) | rfl))))
    conv => whnf
    refine Cnd.mk (fun hlt => ?_) fun hge => ?_
    · have hin : i < L.length := by have := of_decide_eq_true hlt; omega
      have e0 := cellX (pre := pre) (post := post) hin
      have l1 := idsN_len hi
      have n1 : List.take i (List.drop 0 ((idsN L i).map irow)) ++ List.take 1 (List.drop 0 [irow (L.getD i (0, false)).1]) = (idsN L (i + 1)).map irow := by
        rw [List.drop_zero, List.take_of_length_le (by rw [List.length_map, l1]; exact Nat.le_refl _), idsN_next hin, List.map_append]; rfl
      repeat ((conv => whnf); (first | refine Cnd.yes ?_ | refine Cnd.no ?_ | refine And.intro rfl ?_ | refine And.intro (by omega) ?_ | (refine And.intro ?_ ?_; focus (simp only [IntKind.wrap_i64, IntKind.wrap_u64, IntKind.wrap_u32]; omega)) | (refine And.intro ?_ ?_; focus (simp only [zl1, zl2, zl3, zl4, zl5, zl6, zl7, zl8, zl9] <;> omega)) | (refine Cnd.tt ?_ ?_; focus (first | (apply decide_eq_true; omega) | (simp only [zq1, zq2, zq3, zq4, zq5, zq6, zq7, zq8, zq9, zq10, zq11, zq12] <;> omega) | rfl)) | (refine Cnd.ff ?_ ?_; focus (first | (apply decide_eq_false; omega) | (simp only [zq1, zq2, zq3, zq4, zq5, zq6, zq7, zq8, zq9, zq10, zq11, zq12] <;> omega) | rfl))))
      conv => whnf
      rw [e0]
      repeat ((conv => whnf); (first | refine Cnd.yes ?_ | refine Cnd.no ?_ | refine And.intro rfl ?_ | refine And.intro (by omega) ?_ | (refine And.intro ?_ ?_; focus (simp only [IntKind.wrap_i64, IntKind.wrap_u64, IntKind.wrap_u32]; omega)) | (refine And.intro ?_ ?_; focus (simp only [zl1, zl2, zl3, zl4, zl5, zl6, zl7, zl8, zl9] <;> omega)) | (refine Cnd.tt ?_ ?_; focus (first | (apply decide_eq_true; omega) | (simp only [zq1, zq2, zq3, zq4, zq5, zq6, zq7, zq8, zq9, zq10, zq11, zq12] <;> omega) | rfl)) | (refine Cnd.ff ?_ ?_; focus (first | (apply decide_eq_false; omega) | (simp only [zq1, zq2, zq3, zq4, zq5, zq6, zq7, zq8, zq9, zq10, zq11, zq12] <;> omega) | rfl))))
      conv => whnf
      (refine ⟨(fun s : Nat => L.length - s) ((i + 1)), [0, 1, 4], tmk 26 0 ((fun s : Nat => [(0, .ptr 0 0 0 0), (3, .slc 2 1 0 s), (4, .v (.int .i64 s))]) ((i + 1))), (fun s : Nat => [Ent.rcells 44 [.v (.int .i64 n), .v (.int .i64 nx), .slc 1 2 pre.length L.length], .row false 52 [.int .i64, .bool] ((pre ++ L ++ post).map orow), .row true 3 [.int .i64] ((idsN L s).map irow)]) ((i + 1)), ?_, ?_⟩; focus (first | (simp only []; omega) | omega))
      repeat ((conv => whnf); (first | refine Cnd.yes ?_ | refine Cnd.no ?_ | refine And.intro rfl ?_ | refine And.intro (by omega) ?_ | (refine And.intro ?_ ?_; focus (simp only [IntKind.wrap_i64, IntKind.wrap_u64, IntKind.wrap_u32]; omega)) | (refine And.intro ?_ ?_; focus (simp only [zl1, zl2, zl3, zl4, zl5, zl6, zl7, zl8, zl9] <;> omega))))
      conv => whnf
      refine ⟨n1, ?_⟩
      repeat ((conv => whnf); (first | refine Cnd.yes ?_ | refine Cnd.no ?_ | refine And.intro rfl ?_ | refine And.intro (by omega) ?_ | (refine And.intro ?_ ?_; focus (simp only [IntKind.wrap_i64, IntKind.wrap_u64, IntKind.wrap_u32]; omega)) | (refine And.intro ?_ ?_; focus (simp only [zl1, zl2, zl3, zl4, zl5, zl6, zl7, zl8, zl9] <;> omega))))
      conv => whnf
      exact ⟨i + 1, hin, rfl, rfl, (tmkK_eq _ _ _ _).mpr rfl, rfl⟩
    · have hin : i = L.length := by have := of_decide_eq_false hge; omega
      subst hin
      repeat ((conv => whnf); (first | refine Cnd.yes ?_ | refine Cnd.no ?_ | refine And.intro rfl ?_ | refine And.intro (by omega) ?_ | (refine And.intro ?_ ?_; focus (simp only [IntKind.wrap_i64, IntKind.wrap_u64, IntKind.wrap_u32]; omega)) | (refine And.intro ?_ ?_; focus (simp only [zl1, zl2, zl3, zl4, zl5, zl6, zl7, zl8, zl9] <;> omega)) | (refine Cnd.tt ?_ ?_; focus (first | (apply decide_eq_true; omega) | (simp only [zq1, zq2, zq3, zq4, zq5, zq6, zq7, zq8, zq9, zq10, zq11, zq12] <;> omega) | rfl)) | (refine Cnd.ff ?_ ?_; focus (first | (apply decide_eq_false; omega) | (simp only [zq1, zq2, zq3, zq4, zq5, zq6, zq7, zq8, zq9, zq10, zq11, zq12] <;> omega) | rfl))))
      conv => whnf
      refine ⟨[0, 1, 2], .slc 2 1 0 L.length, (xHp false n nx pre L post ++ [.row true 3 [.int .i64] ((idsN L L.length).map irow)]), ?_⟩
      repeat ((conv => whnf); (first | refine Cnd.yes ?_ | refine Cnd.no ?_ | refine And.intro rfl ?_ | refine And.intro (by omega) ?_ | (refine And.intro ?_ ?_; focus (simp only [IntKind.wrap_i64, IntKind.wrap_u64, IntKind.wrap_u32]; omega)) | (refine And.intro ?_ ?_; focus (simp only [zl1, zl2, zl3, zl4, zl5, zl6, zl7, zl8, zl9] <;> omega))))
      conv => whnf
      exact hK
def xidsS : Vc.Spec := fun args hp _ K => ∃ (n nx : Int) (pre L post : List (Int × Bool)), args = [.ptr 0 0 0 0] ∧ hp = xHp false n nx pre L post ∧ L.length ≤ 1000 ∧ K (.slc 2 1 0 L.length) (xHp false n nx pre L post ++ [.row true 3 [.int .i64] ((idsN L L.length).map irow)])
theorem xids_ok : SOK Tryd.prog 23 xidsS := by
  refine TOK.weaken (TOK.out (runF_eq G0_ok mixed at23.1 at23.2 pf23_eq)) fun args hp M K h => ?_
  obtain ⟨n, nx, pre, L, post, rfl, rfl, h1, h2⟩ := h
  exact xids_run M K n nx pre L post h1 h2
theorem idsQ_run (M : HL) (K : SV → List Ent → HL → Prop) (n nx : Int) (L post : List (Int × Bool)) (hl : L.length ≤ 1000)
    (hK : K (.slc 2 1 0 L.length) (robHp false n nx L post ++ [.row true 3 [.int .i64] ((idsN L L.length).map irow)]) M) :
    runF G0 pf14 [.ptr 0 0 0 0] (robHp false n nx L post) M fun v hp2 M2 => ∃ m v' hp', Wk (llen (robHp false n nx L post)) m [v] hp2 [v'] hp' (K v' hp' M2) := by
  repeat ((conv => whnf); (first | refine Cnd.yes ?_ | refine Cnd.no ?_ | refine And.intro rfl ?_ | refine And.intro (by omega) ?_ | (refine And.intro ?_ ?_; focus (simp only [IntKind.wrap_i64, IntKind.wrap_u64, IntKind.wrap_u32]; omega)) | (refine And.intro ?_ ?_; focus (simp only [zl1, zl2, zl3, zl4, zl5, zl6, zl7, zl8, zl9] <;> omega)) | (refine Cnd.tt ?_ ?_; focus (first | (apply decide_eq_true; omega) | (simp only [zq1, zq2, zq3, zq4, zq5, zq6, zq7, zq8, zq9, zq10, zq11, zq12] <;> omega) | rfl)) | (refine Cnd.ff ?_ ?_; focus (first | (apply decide_eq_false; omega) | (simp only [zq1, zq2, zq3, zq4, zq5, zq6, zq7, zq8, zq9, zq10, zq11, zq12] <;> omega) | rfl))))
  conv => whnf
  refine ⟨InvS 22 (fun s : Nat => L.length - s) (fun s : Nat => s ≤ L.length) (fun s : Nat => [(0, .ptr 0 0 0 0), (3, .slc 2 1 0 s), (9, .slc 1 2 0 L.length), (10, .v (.int .i64 L.length)), (11, .v (.int .i64 s))]) (fun s : Nat => [Ent.rcells 56 [.v (.int .i64 n), .v (.int .i64 nx), .slc 1 2 0 L.length], .row false 58 [.int .i64, .bool] ((L ++ post).map orow), .row true 3 [.int .i64] ((idsN L s).map irow)]) M, ⟨(fun s : Nat => L.length - s) 0, [0, 1, 9], tmk 22 0 ((fun s : Nat => [(0, .ptr 0 0 0 0), (3, .slc 2 1 0 s), (9, .slc 1 2 0 L.length), (10, .v (.int .i64 L.length)), (11, .v (.int .i64 s))]) 0), (fun s : Nat => [Ent.rcells 56 [.v (.int .i64 n), .v (.int .i64 nx), .slc 1 2 0 L.length], .row false 58 [.int .i64, .bool] ((L ++ post).map orow), .row true 3 [.int .i64] ((idsN L s).map irow)]) 0, ?_⟩, ?_⟩
  · repeat ((conv => whnf); (first | refine Cnd.yes ?_ | refine Cnd.no ?_ | refine And.intro rfl ?_ | refine And.intro (by omega) ?_ | (refine And.intro ?_ ?_; focus (simp only [IntKind.wrap_i64, IntKind.wrap_u64, IntKind.wrap_u32]; omega)) | (refine And.intro ?_ ?_; focus (simp only [zl1, zl2, zl3, zl4, zl5, zl6, zl7, zl8, zl9] <;> omega))))
    conv => whnf
    exact ⟨0, Nat.zero_le _, rfl, rfl, (tmkK_eq _ _ _ _).mpr rfl, rfl⟩
  · rintro cnt tm hp M1 ⟨i, hC_, rfl, rfl, htm, hhp_⟩
    replace hC_ : i ≤ L.length := hC_
    have hi := hC_
    replace htm : tmkK 22 0 [(0, .ptr 0 0 0 0), (3, .slc 2 1 0 i), (9, .slc 1 2 0 L.length), (10, .v (.int .i64 L.length)), (11, .v (.int .i64 i))] (fun l => tm = l) := htm
    conv at htm => whnf
    subst htm
    replace hhp_ : hp = [Ent.rcells 56 [.v (.int .i64 n), .v (.int .i64 nx), .slc 1 2 0 L.length], .row false 58 [.int .i64, .bool] ((L ++ post).map orow), .row true 3 [.int .i64] ((idsN L i).map irow)] := hhp_
    subst hhp_
    repeat ((conv => whnf); (first | refine Cnd.yes ?_ | refine Cnd.no ?_ | refine And.intro rfl ?_ | refine And.intro (by omega) ?_ | (refine And.intro ?_ ?_; focus (simp only [IntKind.wrap_i64, IntKind.wrap_u64, IntKind.wrap_u32]; omega)) | (refine And.intro ?_ ?_; focus (simp only [zl1, zl2, zl3, zl4, zl5, zl6, zl7, zl8, zl9] <;> omega)) | (refine Cnd.tt ?_ ?_; focus (first | (apply decide_eq_true; omega) | (simp only [zq1, zq2, zq3, zq4, zq5, zq6, zq7, zq8, zq9, zq10, zq11, zq12] <;> omega) | rfl)) | (refine Cnd.ff ?_ ?_; focus (first | (apply decide_eq_false; omega) | (simp only [zq1, zq2, zq3, zq4, zq5, zq6, zq7, zq8, zq9, zq10, zq11, zq12] <;> omega) | rfl))))
    conv => whnf
    refine Cnd.mk (fun hlt => ?_) fun hge => ?_
    · have hin : i < L.length := by have := of_decide_eq_true hlt; omega
      have e0 := cellO (post := post) hin
      have l1 := idsN_len hi
      have n1 : List.take i (List.drop 0 ((idsN L i).map irow)) ++ List.take 1 (List.drop 0 [irow (L.getD i (0, false)).1]) = (idsN L (i + 1)).map irow := by
        rw [List.drop_zero, List.take_of_length_le (by rw [List.length_map, l1]; exact Nat.le_refl _), idsN_next hin, List.map_append]; rfl
      repeat ((conv => whnf); (first | refine Cnd.yes ?_ | refine Cnd.no ?_ | refine And.intro rfl ?_ | refine And.intro (by omega) ?_ | (refine And.intro ?_ ?_; focus (simp only [IntKind.wrap_i64, IntKind.wrap_u64, IntKind.wrap_u32]; omega)) | (refine And.intro ?_ ?_; focus (simp only [zl1, zl2, zl3, zl4, zl5, zl6, zl7, zl8, zl9] <;> omega)) | (refine Cnd.tt ?_ ?_; focus (first | (apply decide_eq_true; omega) | (simp only [zq1, zq2, zq3, zq4, zq5, zq6, zq7, zq8, zq9, zq10, zq11, zq12] <;> omega) | rfl)) | (refine Cnd.ff ?_ ?_; focus (first | (apply decide_eq_false; omega) | (simp only [zq1, zq2, zq3, zq4, zq5, zq6, zq7, zq8, zq9, zq10, zq11, zq12] <;> omega) | rfl))))
      conv => whnf
      rw [e0]
      repeat ((conv => whnf); (first | refine Cnd.yes ?_ | refine Cnd.no ?_ | refine And.intro rfl ?_ | refine And.intro (by omega) ?_ | (refine And.intro ?_ ?_; focus (simp only [IntKind.wrap_i64, IntKind.wrap_u64, IntKind.wrap_u32]; omega)) | (refine And.intro ?_ ?_; focus (simp only [zl1, zl2, zl3, zl4, zl5, zl6, zl7, zl8, zl9] <;> omega)) | (refine Cnd.tt ?_ ?_; focus (first | (apply decide_eq_true; omega) | (simp only [zq1, zq2, zq3, zq4, zq5, zq6, zq7, zq8, zq9, zq10, zq11, zq12] <;> omega) | rfl)) | (refine Cnd.ff ?_ ?_; focus (first | (apply decide_eq_false; omega) | (simp only [zq1, zq2, zq3, zq4, zq5, zq6, zq7, zq8, zq9, zq10, zq11, zq12] <;> omega) | rfl))))
      conv => whnf
      (refine ⟨(fun s : Nat => L.length - s) ((i + 1)), [0, 1, 5], tmk 22 0 ((fun s : Nat => [(0, .ptr 0 0 0 0), (3, .slc 2 1 0 s), (9, .slc 1 2 0 L.length), (10, .v (.int .i64 L.length)), (11, .v (.int .i64 s))]) ((i + 1))), (fun s : Nat => [Ent.rcells 56 [.v (.int .i64 n), .v (.int .i64 nx), .slc 1 2 0 L.length], .row false 58 [.int .i64, .bool] ((L ++ post).map orow), .row true 3 [.int .i64] ((idsN L s).map irow)]) ((i + 1)), ?_, ?_⟩; focus (first | (simp only []; omega) | omega))
      repeat ((conv => whnf); (first | refine Cnd.yes ?_ | refine Cnd.no ?_ | refine And.intro rfl ?_ | refine And.intro (by omega) ?_ | (refine And.intro ?_ ?_; focus (simp only [IntKind.wrap_i64, IntKind.wrap_u64, IntKind.wrap_u32]; omega)) | (refine And.intro ?_ ?_; focus (simp only [zl1, zl2, zl3, zl4, zl5, zl6, zl7, zl8, zl9] <;> omega))))
      conv => whnf
      refine ⟨n1, ?_⟩
      repeat ((conv => whnf); (first | refine Cnd.yes ?_ | refine Cnd.no ?_ | refine And.intro rfl ?_ | refine And.intro (by omega) ?_ | (refine And.intro ?_ ?_; focus (simp only [IntKind.wrap_i64, IntKind.wrap_u64, IntKind.wrap_u32]; omega)) | (refine And.intro ?_ ?_; focus (simp only [zl1, zl2, zl3, zl4, zl5, zl6, zl7, zl8, zl9] <;> omega))))
      conv => whnf
      exact ⟨i + 1, hin, rfl, rfl, (tmkK_eq _ _ _ _).mpr rfl, rfl⟩
    · have hin : i = L.length := by have := of_decide_eq_false hge; omega
      subst hin
      repeat ((conv => whnf); (first | refine Cnd.yes ?_ | refine Cnd.no ?_ | refine And.intro rfl ?_ | refine And.intro (by omega) ?_ | (refine And.intro ?_ ?_; focus (simp only [IntKind.wrap_i64, IntKind.wrap_u64, IntKind.wrap_u32]; omega)) | (refine And.intro ?_ ?_; focus (simp only [zl1, zl2, zl3, zl4, zl5, zl6, zl7, zl8, zl9] <;> omega)) | (refine Cnd.tt ?_ ?_; focus (first | (apply decide_eq_true; omega) | (simp only [zq1, zq2, zq3, zq4, zq5, zq6, zq7, zq8, zq9, zq10, zq11, zq12] <;> omega) | rfl)) | (refine Cnd.ff ?_ ?_; focus (first | (apply decide_eq_false; omega) | (simp only [zq1, zq2, zq3, zq4, zq5, zq6, zq7, zq8, zq9, zq10, zq11, zq12] <;> omega) | rfl))))
      conv => whnf
      refine ⟨[0, 1, 2], .slc 2 1 0 L.length, (robHp false n nx L post ++ [.row true 3 [.int .i64] ((idsN L L.length).map irow)]), ?_⟩
      repeat ((conv => whnf); (first | refine Cnd.yes ?_ | refine Cnd.no ?_ | refine And.intro rfl ?_ | refine And.intro (by omega) ?_ | (refine And.intro ?_ ?_; focus (simp only [IntKind.wrap_i64, IntKind.wrap_u64, IntKind.wrap_u32]; omega)) | (refine And.intro ?_ ?_; focus (simp only [zl1, zl2, zl3, zl4, zl5, zl6, zl7, zl8, zl9] <;> omega))))
      conv => whnf
      exact hK
def idsQS : Vc.Spec := fun args hp _ K => ∃ (n nx : Int) (L post : List (Int × Bool)), args = [.ptr 0 0 0 0] ∧ hp = robHp false n nx L post ∧ L.length ≤ 1000 ∧ K (.slc 2 1 0 L.length) (robHp false n nx L post ++ [.row true 3 [.int .i64] ((idsN L L.length).map irow)])
theorem idsQ_ok : SOK Tryd.prog 14 idsQS := by
  refine TOK.weaken (TOK.out (runF_eq G0_ok mixed at14.1 at14.2 pf14_eq)) fun args hp M K h => ?_
  obtain ⟨n, nx, L, post, rfl, rfl, h1, h2⟩ := h
  exact idsQ_run M K n nx L post h1 h2
/-- The first one of a list: number, done, whether there is one. -/
def hdV : List (Int × Bool) → SV | [] => .tup [.v (.int .i64 0), .v (.bool false), .v (.bool false)] | x :: _ => .tup [.v (.int .i64 x.1), .v (.bool x.2), .v (.bool true)]
theorem head_run (M : HL) (K : SV → List Ent → HL → Prop) (n nx : Int) (L post : List (Int × Bool)) (hl : L.length ≤ 1000) (hK : K (hdV L) (robHp true n nx L post) M) :
    runF G0 pf21 [.ptr 0 0 0 0] (robHp true n nx L post) M K := by
  cases L with
  | nil =>
    repeat ((conv => whnf); (first | refine Cnd.yes ?_ | refine Cnd.no ?_ | refine And.intro rfl ?_ | refine And.intro (by omega) ?_ | (refine And.intro ?_ ?_; focus (simp only [IntKind.wrap_i64, IntKind.wrap_u64, IntKind.wrap_u32]; omega)) | (refine And.intro ?_ ?_; focus (simp only [zl1, zl2, zl3, zl4, zl5, zl6, zl7, zl8, zl9] <;> omega)) | (refine Cnd.tt ?_ ?_; focus (first | (apply decide_eq_true; omega) | (simp only [zq1, zq2, zq3, zq4, zq5, zq6, zq7, zq8, zq9, zq10, zq11, zq12] <;> omega) | rfl)) | (refine Cnd.ff ?_ ?_; focus (first | (apply decide_eq_false; omega) | (simp only [zq1, zq2, zq3, zq4, zq5, zq6, zq7, zq8, zq9, zq10, zq11, zq12] <;> omega) | rfl))))
    conv => whnf
    exact hK
  | cons x R =>
    have hl : (x :: R).length = R.length + 1 := rfl
    repeat ((conv => whnf); (first | refine Cnd.yes ?_ | refine Cnd.no ?_ | refine And.intro rfl ?_ | refine And.intro (by omega) ?_ | (refine And.intro ?_ ?_; focus (simp only [IntKind.wrap_i64, IntKind.wrap_u64, IntKind.wrap_u32]; omega)) | (refine And.intro ?_ ?_; focus (simp only [zl1, zl2, zl3, zl4, zl5, zl6, zl7, zl8, zl9] <;> omega)) | (refine Cnd.tt ?_ ?_; focus (first | (apply decide_eq_true; omega) | (simp only [zq1, zq2, zq3, zq4, zq5, zq6, zq7, zq8, zq9, zq10, zq11, zq12] <;> omega) | rfl)) | (refine Cnd.ff ?_ ?_; focus (first | (apply decide_eq_false; omega) | (simp only [zq1, zq2, zq3, zq4, zq5, zq6, zq7, zq8, zq9, zq10, zq11, zq12] <;> omega) | rfl))))
    conv => whnf
    exact hK
def headS : Vc.Spec := fun args hp _ K => ∃ (n nx : Int) (L post : List (Int × Bool)), args = [.ptr 0 0 0 0] ∧ hp = robHp true n nx L post ∧ L.length ≤ 1000 ∧ K (hdV L) (robHp true n nx L post)
theorem head_ok : SOK Tryd.prog 21 headS := by
  refine TOK.weaken (runF_eq G0_ok mixed at21.1 at21.2 pf21_eq) fun args hp M K h => ?_
  obtain ⟨n, nx, L, post, rfl, rfl, h1, h2⟩ := h
  exact head_run M K n nx L post h1 h2
end Go.Proofs.YthmofpilphfkcaaDoor
