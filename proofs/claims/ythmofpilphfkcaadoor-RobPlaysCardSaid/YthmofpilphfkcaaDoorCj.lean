/-
  The document's buffer: Among, Push, Done, Pop, Cut, Ids, walked; their contracts.
-/
import Derived.Test.YthmofpilphfkcaaDoorCf
namespace Go.Proofs.YthmofpilphfkcaaDoor
open Go Go.Vc
set_option maxRecDepth 100000
set_option linter.unusedSimpArgs false
set_option linter.unusedVariables false
set_option maxHeartbeats 4000000
theorem among_run (M : HL) (K : SV → List Ent → HL → Prop) (l : List Int) (p : Int) (o : Bool) (e : TypeId) (hl : l.length ≤ 1000000)
    (hK : K (.v (.bool (decide (p ∈ l)))) [.row o e [.int .i64] (l.map irow)] M) :
    runF G0 pf30 [.slc 0 1 0 l.length, .v (.int .i64 p)] [.row o e [.int .i64] (l.map irow)] M K := by
  repeat ((conv => whnf); (first | refine Cnd.yes ?_ | refine Cnd.no ?_ | refine And.intro rfl ?_ | refine And.intro (by omega) ?_ | (refine And.intro ?_ ?_; focus (simp only [IntKind.wrap_i64, IntKind.wrap_u64, IntKind.wrap_u32]; omega)) | (refine And.intro ?_ ?_; focus (simp only [zl1, zl2, zl3, zl4, zl5, zl6, zl7, zl8, zl9] <;> omega)) | (refine Cnd.tt ?_ ?_; focus (first | (apply decide_eq_true; omega) | (simp only [zq1, zq2, zq3, zq4, zq5, zq6, zq7, zq8, zq9, zq10, zq11, zq12] <;> omega) | rfl)) | (refine Cnd.ff ?_ ?_; focus (first | (apply decide_eq_false; omega) | (simp only [zq1, zq2, zq3, zq4, zq5, zq6, zq7, zq8, zq9, zq10, zq11, zq12] <;> omega) | rfl))))
  conv => whnf
  refine ⟨InvS 18 (fun s : Nat => l.length - s) (fun s : Nat => s ≤ l.length ∧ ∀ j, j < s → l.getD j 0 ≠ p) (fun s : Nat => [(0, .slc 0 1 0 l.length), (1, .v (.int .i64 p)), (5, .v (.int .i64 s))]) (fun s : Nat => [Ent.row o e [.int .i64] (l.map irow)]) M, ⟨(fun s : Nat => l.length - s) 0, [0], tmk 18 0 ((fun s : Nat => [(0, .slc 0 1 0 l.length), (1, .v (.int .i64 p)), (5, .v (.int .i64 s))]) 0), (fun s : Nat => [Ent.row o e [.int .i64] (l.map irow)]) 0, ?_⟩, ?_⟩
  · repeat ((conv => whnf); (first | refine Cnd.yes ?_ | refine Cnd.no ?_ | refine And.intro rfl ?_ | refine And.intro (by omega) ?_ | (refine And.intro ?_ ?_; focus (simp only [IntKind.wrap_i64, IntKind.wrap_u64, IntKind.wrap_u32]; omega)) | (refine And.intro ?_ ?_; focus (simp only [zl1, zl2, zl3, zl4, zl5, zl6, zl7, zl8, zl9] <;> omega))))
    conv => whnf
    exact ⟨0, ⟨by omega, fun j hj => by omega⟩, rfl, rfl, (tmkK_eq _ _ _ _).mpr rfl, rfl⟩
  · rintro cnt tm hp M1 ⟨i, hC_, rfl, rfl, htm, hhp_⟩
    replace hC_ : i ≤ l.length ∧ ∀ j, j < i → l.getD j 0 ≠ p := hC_
    obtain ⟨hi,hall⟩ := hC_
    replace htm : tmkK 18 0 [(0, .slc 0 1 0 l.length), (1, .v (.int .i64 p)), (5, .v (.int .i64 i))] (fun l => tm = l) := htm
    conv at htm => whnf
    subst htm
    replace hhp_ : hp = [Ent.row o e [.int .i64] (l.map irow)] := hhp_
    subst hhp_
    repeat ((conv => whnf); (first | refine Cnd.yes ?_ | refine Cnd.no ?_ | refine And.intro rfl ?_ | refine And.intro (by omega) ?_ | (refine And.intro ?_ ?_; focus (simp only [IntKind.wrap_i64, IntKind.wrap_u64, IntKind.wrap_u32]; omega)) | (refine And.intro ?_ ?_; focus (simp only [zl1, zl2, zl3, zl4, zl5, zl6, zl7, zl8, zl9] <;> omega))))
    conv => whnf
    refine Cnd.mk (fun hlt => ?_) fun hge => ?_
    · have hin : i < l.length := by have := of_decide_eq_true hlt; omega
      have e0 := toI_i hin
      repeat ((conv => whnf); (first | refine Cnd.yes ?_ | refine Cnd.no ?_ | refine And.intro rfl ?_ | refine And.intro (by omega) ?_ | (refine And.intro ?_ ?_; focus (simp only [IntKind.wrap_i64, IntKind.wrap_u64, IntKind.wrap_u32]; omega)) | (refine And.intro ?_ ?_; focus (simp only [zl1, zl2, zl3, zl4, zl5, zl6, zl7, zl8, zl9] <;> omega)) | (refine Cnd.tt ?_ ?_; focus (first | (apply decide_eq_true; omega) | (simp only [zq1, zq2, zq3, zq4, zq5, zq6, zq7, zq8, zq9, zq10, zq11, zq12] <;> omega) | rfl)) | (refine Cnd.ff ?_ ?_; focus (first | (apply decide_eq_false; omega) | (simp only [zq1, zq2, zq3, zq4, zq5, zq6, zq7, zq8, zq9, zq10, zq11, zq12] <;> omega) | rfl))))
      conv => whnf
      rw [e0]
      by_cases hp : l.getD i 0 = p
      · repeat ((conv => whnf); (first | refine Cnd.yes ?_ | refine Cnd.no ?_ | refine And.intro rfl ?_ | refine And.intro (by omega) ?_ | (refine And.intro ?_ ?_; focus (simp only [IntKind.wrap_i64, IntKind.wrap_u64, IntKind.wrap_u32]; omega)) | (refine And.intro ?_ ?_; focus (simp only [zl1, zl2, zl3, zl4, zl5, zl6, zl7, zl8, zl9] <;> omega)) | (refine Cnd.tt ?_ ?_; focus (first | (apply decide_eq_true; omega) | (simp only [zq1, zq2, zq3, zq4, zq5, zq6, zq7, zq8, zq9, zq10, zq11, zq12] <;> omega) | rfl)) | (refine Cnd.ff ?_ ?_; focus (first | (apply decide_eq_false; omega) | (simp only [zq1, zq2, zq3, zq4, zq5, zq6, zq7, zq8, zq9, zq10, zq11, zq12] <;> omega) | rfl))))
        conv => whnf
        rw [decide_eq_true (show p ∈ l by rw [← hp]; simp [List.getD, hin])] at hK
        exact hK
      · repeat ((conv => whnf); (first | refine Cnd.yes ?_ | refine Cnd.no ?_ | refine And.intro rfl ?_ | refine And.intro (by omega) ?_ | (refine And.intro ?_ ?_; focus (simp only [IntKind.wrap_i64, IntKind.wrap_u64, IntKind.wrap_u32]; omega)) | (refine And.intro ?_ ?_; focus (simp only [zl1, zl2, zl3, zl4, zl5, zl6, zl7, zl8, zl9] <;> omega)) | (refine Cnd.tt ?_ ?_; focus (first | (apply decide_eq_true; omega) | (simp only [zq1, zq2, zq3, zq4, zq5, zq6, zq7, zq8, zq9, zq10, zq11, zq12] <;> omega) | rfl)) | (refine Cnd.ff ?_ ?_; focus (first | (apply decide_eq_false; omega) | (simp only [zq1, zq2, zq3, zq4, zq5, zq6, zq7, zq8, zq9, zq10, zq11, zq12] <;> omega) | rfl))))
        conv => whnf
        (refine ⟨(fun s : Nat => l.length - s) (i + 1), [0], tmk 18 0 ((fun s : Nat => [(0, .slc 0 1 0 l.length), (1, .v (.int .i64 p)), (5, .v (.int .i64 s))]) (i + 1)), (fun s : Nat => [Ent.row o e [.int .i64] (l.map irow)]) (i + 1), ?_, ?_⟩; focus (first | (simp only []; omega) | omega))
        repeat ((conv => whnf); (first | refine Cnd.yes ?_ | refine Cnd.no ?_ | refine And.intro rfl ?_ | refine And.intro (by omega) ?_ | (refine And.intro ?_ ?_; focus (simp only [IntKind.wrap_i64, IntKind.wrap_u64, IntKind.wrap_u32]; omega)) | (refine And.intro ?_ ?_; focus (simp only [zl1, zl2, zl3, zl4, zl5, zl6, zl7, zl8, zl9] <;> omega))))
        conv => whnf
        exact ⟨i + 1, ⟨by omega, fun j hj => by rcases Nat.lt_succ_iff_lt_or_eq.1 hj with h | h; exact hall j h; rw [h]; exact hp⟩, rfl, rfl, (tmkK_eq _ _ _ _).mpr rfl, rfl⟩
    · have hin : i = l.length := by have := of_decide_eq_false hge; omega
      repeat ((conv => whnf); (first | refine Cnd.yes ?_ | refine Cnd.no ?_ | refine And.intro rfl ?_ | refine And.intro (by omega) ?_ | (refine And.intro ?_ ?_; focus (simp only [IntKind.wrap_i64, IntKind.wrap_u64, IntKind.wrap_u32]; omega)) | (refine And.intro ?_ ?_; focus (simp only [zl1, zl2, zl3, zl4, zl5, zl6, zl7, zl8, zl9] <;> omega)) | (refine Cnd.tt ?_ ?_; focus (first | (apply decide_eq_true; omega) | (simp only [zq1, zq2, zq3, zq4, zq5, zq6, zq7, zq8, zq9, zq10, zq11, zq12] <;> omega) | rfl)) | (refine Cnd.ff ?_ ?_; focus (first | (apply decide_eq_false; omega) | (simp only [zq1, zq2, zq3, zq4, zq5, zq6, zq7, zq8, zq9, zq10, zq11, zq12] <;> omega) | rfl))))
      conv => whnf
      rw [decide_eq_false (show ¬ p ∈ l from fun hm => by
        obtain ⟨j, hj, h⟩ := List.getElem_of_mem hm
        exact hall j (by omega) (by simpa [List.getD, hj] using h))] at hK
      exact hK
def amongS : Vc.Spec := fun args hp _ K => ∃ (l : List Int) (p : Int) (o : Bool) (e : TypeId), args = [.slc 0 1 0 l.length, .v (.int .i64 p)] ∧ hp = [.row o e [.int .i64] (l.map irow)] ∧ l.length ≤ 1000000 ∧ K (.v (.bool (decide (p ∈ l)))) [.row o e [.int .i64] (l.map irow)]
theorem among_ok : SOK Tryd.prog 30 amongS := by
  refine TOK.weaken (runF_eq G0_ok mixed at30.1 at30.2 pf30_eq) fun args hp M K h => ?_
  obtain ⟨l, p, o, e, rfl, rfl, h1, h2⟩ := h
  exact among_run M K l p o e h1 h2
def xHp (o : Bool) (n nx : Int) (pre L post : List (Int × Bool)) : List Ent := [cellsB o 44 [.v (.int .i64 n), .v (.int .i64 nx), .slc 1 2 pre.length L.length], .row o 52 [.int .i64, .bool] ((pre ++ L ++ post).map orow)]
theorem take_mid (pre L post : List (Int × Bool)) : List.take L.length (List.drop pre.length ((pre ++ L ++ post).map orow)) = L.map orow := by
  rw [List.map_append, List.map_append, List.append_assoc, List.drop_append_of_le_length (by simp), List.drop_of_length_le (by simp), List.nil_append, List.take_append_of_le_length (by simp), List.take_of_length_le (by simp)]
theorem xpush_run (M : HL) (K : SV → List Ent → HL → Prop) (n nx : Int) (pre L post : List (Int × Bool)) (hl : L.length ≤ 1000) (hx : nx < 1000000) (hx0 : 0 ≤ nx)
    (hK : if (L.length : Int) < n then K (.tup [.v (.int .i64 nx), .v (.bool true)]) [.cells 44 [.v (.int .i64 n), .v (.int .i64 (nx + 1)), .slc 2 2 0 (L.length + 1)], .gone, .row true 52 [.int .i64, .bool] ((L ++ [(nx, false)]).map orow)] M
      else K (.tup [.v (.int .i64 0), .v (.bool false)]) (xHp true n nx pre L post) M) :
    runF G0 pf16 [.ptr 0 0 0 0] (xHp true n nx pre L post) M fun v hp2 M2 => ∃ m v' hp', Wk (llen (xHp true n nx pre L post)) m [v] hp2 [v'] hp' (K v' hp' M2) := by
  repeat ((conv => whnf); (first | refine Cnd.yes ?_ | refine Cnd.no ?_ | refine And.intro rfl ?_ | refine And.intro (by omega) ?_ | (refine And.intro ?_ ?_; focus (simp only [IntKind.wrap_i64, IntKind.wrap_u64, IntKind.wrap_u32]; omega)) | (refine And.intro ?_ ?_; focus (simp only [zl1, zl2, zl3, zl4, zl5, zl6, zl7, zl8, zl9] <;> omega)) | (refine Cnd.tt ?_ ?_; focus (first | (apply decide_eq_true; omega) | (simp only [zq1, zq2, zq3, zq4, zq5, zq6, zq7, zq8, zq9, zq10, zq11, zq12] <;> omega) | rfl)) | (refine Cnd.ff ?_ ?_; focus (first | (apply decide_eq_false; omega) | (simp only [zq1, zq2, zq3, zq4, zq5, zq6, zq7, zq8, zq9, zq10, zq11, zq12] <;> omega) | rfl))))
  conv => whnf
  by_cases h : (L.length : Int) < n
  · rw [if_pos h] at hK
    repeat ((conv => whnf); (first | refine Cnd.yes ?_ | refine Cnd.no ?_ | refine And.intro rfl ?_ | refine And.intro (by omega) ?_ | (refine And.intro ?_ ?_; focus (simp only [IntKind.wrap_i64, IntKind.wrap_u64, IntKind.wrap_u32]; omega)) | (refine And.intro ?_ ?_; focus (simp only [zl1, zl2, zl3, zl4, zl5, zl6, zl7, zl8, zl9] <;> omega)) | (refine Cnd.tt ?_ ?_; focus (first | (apply decide_eq_true; omega) | (simp only [zq1, zq2, zq3, zq4, zq5, zq6, zq7, zq8, zq9, zq10, zq11, zq12] <;> omega) | rfl)) | (refine Cnd.ff ?_ ?_; focus (first | (apply decide_eq_false; omega) | (simp only [zq1, zq2, zq3, zq4, zq5, zq6, zq7, zq8, zq9, zq10, zq11, zq12] <;> omega) | rfl))))
    conv => whnf
    have hrow := take_mid pre L post
    refine ⟨?_, ?_⟩
    · repeat ((conv => whnf); (first | refine Cnd.yes ?_ | refine Cnd.no ?_ | refine And.intro rfl ?_ | refine And.intro (by omega) ?_ | (refine And.intro ?_ ?_; focus (simp only [IntKind.wrap_i64, IntKind.wrap_u64, IntKind.wrap_u32]; omega)) | (refine And.intro ?_ ?_; focus (simp only [zl1, zl2, zl3, zl4, zl5, zl6, zl7, zl8, zl9] <;> omega)) | (refine Cnd.tt ?_ ?_; focus (first | (apply decide_eq_true; omega) | (simp only [zq1, zq2, zq3, zq4, zq5, zq6, zq7, zq8, zq9, zq10, zq11, zq12] <;> omega) | rfl)) | (refine Cnd.ff ?_ ?_; focus (first | (apply decide_eq_false; omega) | (simp only [zq1, zq2, zq3, zq4, zq5, zq6, zq7, zq8, zq9, zq10, zq11, zq12] <;> omega) | rfl))))
      conv => whnf
      intro Mr hMr
      repeat ((conv => whnf); (first | refine Cnd.yes ?_ | refine Cnd.no ?_ | refine And.intro rfl ?_ | refine And.intro (by omega) ?_ | (refine And.intro ?_ ?_; focus (simp only [IntKind.wrap_i64, IntKind.wrap_u64, IntKind.wrap_u32]; omega)) | (refine And.intro ?_ ?_; focus (simp only [zl1, zl2, zl3, zl4, zl5, zl6, zl7, zl8, zl9] <;> omega)) | (refine Cnd.tt ?_ ?_; focus (first | (apply decide_eq_true; omega) | (simp only [zq1, zq2, zq3, zq4, zq5, zq6, zq7, zq8, zq9, zq10, zq11, zq12] <;> omega) | rfl)) | (refine Cnd.ff ?_ ?_; focus (first | (apply decide_eq_false; omega) | (simp only [zq1, zq2, zq3, zq4, zq5, zq6, zq7, zq8, zq9, zq10, zq11, zq12] <;> omega) | rfl))))
      conv => whnf
      refine ⟨?_, ?_⟩
      · repeat ((conv => whnf); (first | refine Cnd.yes ?_ | refine Cnd.no ?_ | refine And.intro rfl ?_ | refine And.intro (by omega) ?_ | (refine And.intro ?_ ?_; focus (simp only [IntKind.wrap_i64, IntKind.wrap_u64, IntKind.wrap_u32]; omega)) | (refine And.intro ?_ ?_; focus (simp only [zl1, zl2, zl3, zl4, zl5, zl6, zl7, zl8, zl9] <;> omega)) | (refine Cnd.tt ?_ ?_; focus (first | (apply decide_eq_true; omega) | (simp only [zq1, zq2, zq3, zq4, zq5, zq6, zq7, zq8, zq9, zq10, zq11, zq12] <;> omega) | rfl)) | (refine Cnd.ff ?_ ?_; focus (first | (apply decide_eq_false; omega) | (simp only [zq1, zq2, zq3, zq4, zq5, zq6, zq7, zq8, zq9, zq10, zq11, zq12] <;> omega) | rfl))))
        conv => whnf
        refine ⟨[0, 1, 5], .tup [.v (.int .i64 nx), .v (.bool true)], [.cells 44 [.v (.int .i64 n), .v (.int .i64 (nx + 1)), .slc 2 2 0 (L.length + 1)], .gone, .row true 52 [.int .i64, .bool] ((L ++ [(nx, false)]).map orow)], ?_⟩
        repeat ((conv => whnf); (first | refine Cnd.yes ?_ | refine Cnd.no ?_ | refine And.intro rfl ?_ | refine And.intro (by omega) ?_ | (refine And.intro ?_ ?_; focus (simp only [IntKind.wrap_i64, IntKind.wrap_u64, IntKind.wrap_u32]; omega)) | (refine And.intro ?_ ?_; focus (simp only [zl1, zl2, zl3, zl4, zl5, zl6, zl7, zl8, zl9] <;> omega))))
        conv => whnf
        refine ⟨by rw [hrow]; simp [orow]; exact List.take_of_length_le (by simp), ?_⟩
        repeat ((conv => whnf); (first | refine Cnd.yes ?_ | refine Cnd.no ?_ | refine And.intro rfl ?_ | refine And.intro (by omega) ?_ | (refine And.intro ?_ ?_; focus (simp only [IntKind.wrap_i64, IntKind.wrap_u64, IntKind.wrap_u32]; omega)) | (refine And.intro ?_ ?_; focus (simp only [zl1, zl2, zl3, zl4, zl5, zl6, zl7, zl8, zl9] <;> omega))))
        conv => whnf
        exact hK
      · repeat ((conv => whnf); (first | refine Cnd.yes ?_ | refine Cnd.no ?_ | refine And.intro rfl ?_ | refine And.intro (by omega) ?_ | (refine And.intro ?_ ?_; focus (simp only [IntKind.wrap_i64, IntKind.wrap_u64, IntKind.wrap_u32]; omega)) | (refine And.intro ?_ ?_; focus (simp only [zl1, zl2, zl3, zl4, zl5, zl6, zl7, zl8, zl9] <;> omega)) | (refine Cnd.tt ?_ ?_; focus (first | (apply decide_eq_true; omega) | (simp only [zq1, zq2, zq3, zq4, zq5, zq6, zq7, zq8, zq9, zq10, zq11, zq12] <;> omega) | rfl)) | (refine Cnd.ff ?_ ?_; focus (first | (apply decide_eq_false; omega) | (simp only [zq1, zq2, zq3, zq4, zq5, zq6, zq7, zq8, zq9, zq10, zq11, zq12] <;> omega) | rfl))))
        conv => whnf
        refine ⟨[0, 1, 5], .tup [.v (.int .i64 nx), .v (.bool true)], [.cells 44 [.v (.int .i64 n), .v (.int .i64 (nx + 1)), .slc 2 2 0 (L.length + 1)], .gone, .row true 52 [.int .i64, .bool] ((L ++ [(nx, false)]).map orow)], ?_⟩
        repeat ((conv => whnf); (first | refine Cnd.yes ?_ | refine Cnd.no ?_ | refine And.intro rfl ?_ | refine And.intro (by omega) ?_ | (refine And.intro ?_ ?_; focus (simp only [IntKind.wrap_i64, IntKind.wrap_u64, IntKind.wrap_u32]; omega)) | (refine And.intro ?_ ?_; focus (simp only [zl1, zl2, zl3, zl4, zl5, zl6, zl7, zl8, zl9] <;> omega))))
        conv => whnf
        refine ⟨by rw [hrow]; simp [orow]; exact List.take_of_length_le (by simp), ?_⟩
        repeat ((conv => whnf); (first | refine Cnd.yes ?_ | refine Cnd.no ?_ | refine And.intro rfl ?_ | refine And.intro (by omega) ?_ | (refine And.intro ?_ ?_; focus (simp only [IntKind.wrap_i64, IntKind.wrap_u64, IntKind.wrap_u32]; omega)) | (refine And.intro ?_ ?_; focus (simp only [zl1, zl2, zl3, zl4, zl5, zl6, zl7, zl8, zl9] <;> omega))))
        conv => whnf
        exact hK
    · repeat ((conv => whnf); (first | refine Cnd.yes ?_ | refine Cnd.no ?_ | refine And.intro rfl ?_ | refine And.intro (by omega) ?_ | (refine And.intro ?_ ?_; focus (simp only [IntKind.wrap_i64, IntKind.wrap_u64, IntKind.wrap_u32]; omega)) | (refine And.intro ?_ ?_; focus (simp only [zl1, zl2, zl3, zl4, zl5, zl6, zl7, zl8, zl9] <;> omega)) | (refine Cnd.tt ?_ ?_; focus (first | (apply decide_eq_true; omega) | (simp only [zq1, zq2, zq3, zq4, zq5, zq6, zq7, zq8, zq9, zq10, zq11, zq12] <;> omega) | rfl)) | (refine Cnd.ff ?_ ?_; focus (first | (apply decide_eq_false; omega) | (simp only [zq1, zq2, zq3, zq4, zq5, zq6, zq7, zq8, zq9, zq10, zq11, zq12] <;> omega) | rfl))))
      conv => whnf
      intro Mr hMr
      repeat ((conv => whnf); (first | refine Cnd.yes ?_ | refine Cnd.no ?_ | refine And.intro rfl ?_ | refine And.intro (by omega) ?_ | (refine And.intro ?_ ?_; focus (simp only [IntKind.wrap_i64, IntKind.wrap_u64, IntKind.wrap_u32]; omega)) | (refine And.intro ?_ ?_; focus (simp only [zl1, zl2, zl3, zl4, zl5, zl6, zl7, zl8, zl9] <;> omega)) | (refine Cnd.tt ?_ ?_; focus (first | (apply decide_eq_true; omega) | (simp only [zq1, zq2, zq3, zq4, zq5, zq6, zq7, zq8, zq9, zq10, zq11, zq12] <;> omega) | rfl)) | (refine Cnd.ff ?_ ?_; focus (first | (apply decide_eq_false; omega) | (simp only [zq1, zq2, zq3, zq4, zq5, zq6, zq7, zq8, zq9, zq10, zq11, zq12] <;> omega) | rfl))))
      conv => whnf
      refine ⟨[0, 1, 5], .tup [.v (.int .i64 nx), .v (.bool true)], [.cells 44 [.v (.int .i64 n), .v (.int .i64 (nx + 1)), .slc 2 2 0 (L.length + 1)], .gone, .row true 52 [.int .i64, .bool] ((L ++ [(nx, false)]).map orow)], ?_⟩
      repeat ((conv => whnf); (first | refine Cnd.yes ?_ | refine Cnd.no ?_ | refine And.intro rfl ?_ | refine And.intro (by omega) ?_ | (refine And.intro ?_ ?_; focus (simp only [IntKind.wrap_i64, IntKind.wrap_u64, IntKind.wrap_u32]; omega)) | (refine And.intro ?_ ?_; focus (simp only [zl1, zl2, zl3, zl4, zl5, zl6, zl7, zl8, zl9] <;> omega))))
      conv => whnf
      refine ⟨by rw [hrow]; simp [orow]; exact List.take_of_length_le (by simp), ?_⟩
      repeat ((conv => whnf); (first | refine Cnd.yes ?_ | refine Cnd.no ?_ | refine And.intro rfl ?_ | refine And.intro (by omega) ?_ | (refine And.intro ?_ ?_; focus (simp only [IntKind.wrap_i64, IntKind.wrap_u64, IntKind.wrap_u32]; omega)) | (refine And.intro ?_ ?_; focus (simp only [zl1, zl2, zl3, zl4, zl5, zl6, zl7, zl8, zl9] <;> omega))))
      conv => whnf
      exact hK
  · rw [if_neg h] at hK
    repeat ((conv => whnf); (first | refine Cnd.yes ?_ | refine Cnd.no ?_ | refine And.intro rfl ?_ | refine And.intro (by omega) ?_ | (refine And.intro ?_ ?_; focus (simp only [IntKind.wrap_i64, IntKind.wrap_u64, IntKind.wrap_u32]; omega)) | (refine And.intro ?_ ?_; focus (simp only [zl1, zl2, zl3, zl4, zl5, zl6, zl7, zl8, zl9] <;> omega)) | (refine Cnd.tt ?_ ?_; focus (first | (apply decide_eq_true; omega) | (simp only [zq1, zq2, zq3, zq4, zq5, zq6, zq7, zq8, zq9, zq10, zq11, zq12] <;> omega) | rfl)) | (refine Cnd.ff ?_ ?_; focus (first | (apply decide_eq_false; omega) | (simp only [zq1, zq2, zq3, zq4, zq5, zq6, zq7, zq8, zq9, zq10, zq11, zq12] <;> omega) | rfl))))
    conv => whnf
    refine ⟨[0, 1], .tup [.v (.int .i64 0), .v (.bool false)], xHp true n nx pre L post, ?_⟩
    repeat ((conv => whnf); (first | refine Cnd.yes ?_ | refine Cnd.no ?_ | refine And.intro rfl ?_ | refine And.intro (by omega) ?_ | (refine And.intro ?_ ?_; focus (simp only [IntKind.wrap_i64, IntKind.wrap_u64, IntKind.wrap_u32]; omega)) | (refine And.intro ?_ ?_; focus (simp only [zl1, zl2, zl3, zl4, zl5, zl6, zl7, zl8, zl9] <;> omega))))
    conv => whnf
    exact hK
def xpushS : Vc.Spec := fun args hp _ K => ∃ (n nx : Int) (pre L post : List (Int × Bool)), args = [.ptr 0 0 0 0] ∧ hp = xHp true n nx pre L post ∧ L.length ≤ 1000 ∧ nx < 1000000 ∧ 0 ≤ nx ∧
  if (L.length : Int) < n then K (.tup [.v (.int .i64 nx), .v (.bool true)]) [.cells 44 [.v (.int .i64 n), .v (.int .i64 (nx + 1)), .slc 2 2 0 (L.length + 1)], .gone, .row true 52 [.int .i64, .bool] ((L ++ [(nx, false)]).map orow)]
  else K (.tup [.v (.int .i64 0), .v (.bool false)]) (xHp true n nx pre L post)
theorem xpush_ok : SOK Tryd.prog 16 xpushS := by
  refine TOK.weaken (TOK.out (runF_eq G0_ok mixed at16.1 at16.2 pf16_eq)) fun args hp M K h => ?_
  obtain ⟨n, nx, pre, L, post, rfl, rfl, h1, h2, h3, h4⟩ := h
  exact xpush_run M K n nx pre L post h1 h2 h3 h4
theorem cell_at {α : Type} (f : α → List Value) (P Q : List α) (x : α) {j : Nat} (k : Nat) (hj : j = P.length) : cellAt ((P ++ x :: Q).map f) j k = (f x).getD k undef := by
  subst hj
  simp [cellAt, List.getD]
theorem set_at {α : Type} (f : α → List Value) (P Q : List α) (x y : α) {j : Nat} (o : Nat) (vs : List Value) (hj : j = P.length) (hy : over (f x) o vs = f y) : ((P ++ x :: Q).map f).set j (over (((P ++ x :: Q).map f).getD j []) o vs) = (P ++ y :: Q).map f := by
  subst hj
  have e : ((P ++ x :: Q).map f).getD P.length [] = f x := by simp [List.getD]
  rw [e, hy]
  simp
def markA (ids : List Int) (x : Int × Bool) : Int × Bool := (x.1, x.2 || decide (x.1 ∈ ids))
def cntA (ids : List Int) : List (Int × Bool) → Nat | [] => 0 | x :: l => (if x.1 ∈ ids ∧ x.2 = false then 1 else 0) + cntA ids l
theorem cntA_app (ids : List Int) (a b : List (Int × Bool)) : cntA ids (a ++ b) = cntA ids a + cntA ids b := by
  induction a with
  | nil => simp [cntA]
  | cons x a ih => simp only [List.cons_append, cntA, ih]; omega
theorem cntA_le (ids : List Int) (a : List (Int × Bool)) : cntA ids a ≤ a.length := by
  induction a with
  | nil => simp [cntA]
  | cons x a ih => simp only [cntA, List.length_cons]; split <;> omega
theorem cntA_cons (id : Int) (r : List Int) (L : List (Int × Bool)) : cntA (id :: r) L = cntE id L + cntA r (L.map (markE id)) := by
  induction L with
  | nil => rfl
  | cons x L ih =>
    obtain ⟨u, b⟩ := x
    simp only [cntA, cntE, List.map_cons, ih, markE]
    by_cases h : u = id
    · subst h
      cases b <;> simp <;> omega
    · simp [h]; omega
theorem doneL_eq (ids : List Int) (L : List (Int × Bool)) (c : Nat) : doneL ids (L, c) = (L.map (markA ids), c + cntA ids L) := by
  induction ids generalizing L c with
  | nil =>
    have h : ∀ L : List (Int × Bool), cntA [] L = 0 := fun L => by induction L with | nil => rfl | cons x L ih => simp [cntA, ih]
    simp only [doneL, h, Nat.add_zero]
    congr 1
    induction L with
    | nil => rfl
    | cons x L ih => rw [List.map_cons, ← ih]; simp [markA]
  | cons id r ih =>
    rw [doneL, ih, cntA_cons, List.map_map]
    congr 1
    · refine List.map_congr_left fun x _ => ?_
      obtain ⟨u, b⟩ := x
      simp only [Function.comp, markA, markE]
      by_cases h : u = id
      · subst h; simp
      · simp [h]
    · show c + cntE id L + cntA r (L.map (markE id)) = c + (cntE id L + cntA r (L.map (markE id)))
      omega
def xdHp (n nx : Int) (pre : List (Int × Bool)) (e : TypeId) (o : Bool) (L post : List (Int × Bool)) (ids : List Int) : List Ent := [.cells 44 [.v (.int .i64 n), .v (.int .i64 nx), .slc 1 2 pre.length L.length], .row true 52 [.int .i64, .bool] ((pre ++ L ++ post).map orow), .row o e [.int .i64] (ids.map irow)]
noncomputable def GJ : Nat → Option Vc.Trans := tabG (tget [(30, frameT amongS)]) (tget tab) 5
theorem GJ_ok : GOK Tryd.prog GJ := tabG_ok (GOK.cons (frame_ok among_ok) .nil) tab_ok 5
theorem xdone_run (M : HL) (K : SV → List Ent → HL → Prop) (n nx : Int) (pre : List (Int × Bool)) (e : TypeId) (o : Bool) (L post : List (Int × Bool)) (ids : List Int) (hl : L.length ≤ 1000) (hi : ids.length ≤ 1000)
    (hK : K (.v (.int .i64 (cntA ids L : Nat))) (xdHp n nx pre e o (L.map (markA ids)) post ids) M) :
    runF GJ pf17 [.ptr 0 0 0 0, .slc 2 1 0 ids.length] (xdHp n nx pre e o L post ids) M K := by
  repeat ((conv => whnf); (first | refine Cnd.yes ?_ | refine Cnd.no ?_ | refine And.intro rfl ?_ | refine And.intro (by omega) ?_ | (refine And.intro ?_ ?_; focus (simp only [IntKind.wrap_i64, IntKind.wrap_u64, IntKind.wrap_u32]; omega)) | (refine And.intro ?_ ?_; focus (simp only [zl1, zl2, zl3, zl4, zl5, zl6, zl7, zl8, zl9] <;> omega)) | (refine Cnd.tt ?_ ?_; focus (first | (apply decide_eq_true; omega) | (simp only [zq1, zq2, zq3, zq4, zq5, zq6, zq7, zq8, zq9, zq10, zq11, zq12] <;> omega) | rfl)) | (refine Cnd.ff ?_ ?_; focus (first | (apply decide_eq_false; omega) | (simp only [zq1, zq2, zq3, zq4, zq5, zq6, zq7, zq8, zq9, zq10, zq11, zq12] <;> omega) | rfl))))
  conv => whnf
  refine ⟨InvS 47 (fun s : Nat => L.length - s) (fun s : Nat => s ≤ L.length) (fun s : Nat => [(0, .ptr 0 0 0 0), (1, .slc 2 1 0 ids.length), (5, .v (.int .i64 (cntA ids (L.take s) : Nat))), (6, .v (.int .i64 s))]) (fun s : Nat => [Ent.cells 44 [.v (.int .i64 n), .v (.int .i64 nx), .slc 1 2 pre.length L.length], .row true 52 [.int .i64, .bool] ((pre ++ ((L.take s).map (markA ids) ++ L.drop s) ++ post).map orow), .row o e [.int .i64] (ids.map irow)]) M, ⟨(fun s : Nat => L.length - s) 0, [0, 1, 2], tmk 47 0 ((fun s : Nat => [(0, .ptr 0 0 0 0), (1, .slc 2 1 0 ids.length), (5, .v (.int .i64 (cntA ids (L.take s) : Nat))), (6, .v (.int .i64 s))]) 0), (fun s : Nat => [Ent.cells 44 [.v (.int .i64 n), .v (.int .i64 nx), .slc 1 2 pre.length L.length], .row true 52 [.int .i64, .bool] ((pre ++ ((L.take s).map (markA ids) ++ L.drop s) ++ post).map orow), .row o e [.int .i64] (ids.map irow)]) 0, ?_⟩, ?_⟩
  · repeat ((conv => whnf); (first | refine Cnd.yes ?_ | refine Cnd.no ?_ | refine And.intro rfl ?_ | refine And.intro (by omega) ?_ | (refine And.intro ?_ ?_; focus (simp only [IntKind.wrap_i64, IntKind.wrap_u64, IntKind.wrap_u32]; omega)) | (refine And.intro ?_ ?_; focus (simp only [zl1, zl2, zl3, zl4, zl5, zl6, zl7, zl8, zl9] <;> omega))))
    conv => whnf
    exact ⟨0, Nat.zero_le _, rfl, rfl, (tmkK_eq _ _ _ _).mpr rfl, rfl⟩
  · rintro cnt tm hp M1 ⟨i, hC_, rfl, rfl, htm, hhp_⟩
    replace hC_ : i ≤ L.length := hC_
    have hi2 := hC_
    replace htm : tmkK 47 0 [(0, .ptr 0 0 0 0), (1, .slc 2 1 0 ids.length), (5, .v (.int .i64 (cntA ids (L.take i) : Nat))), (6, .v (.int .i64 i))] (fun l => tm = l) := htm
    conv at htm => whnf
    subst htm
    replace hhp_ : hp = [Ent.cells 44 [.v (.int .i64 n), .v (.int .i64 nx), .slc 1 2 pre.length L.length], .row true 52 [.int .i64, .bool] ((pre ++ ((L.take i).map (markA ids) ++ L.drop i) ++ post).map orow), .row o e [.int .i64] (ids.map irow)] := hhp_
    subst hhp_
    repeat ((conv => whnf); (first | refine Cnd.yes ?_ | refine Cnd.no ?_ | refine And.intro rfl ?_ | refine And.intro (by omega) ?_ | (refine And.intro ?_ ?_; focus (simp only [IntKind.wrap_i64, IntKind.wrap_u64, IntKind.wrap_u32]; omega)) | (refine And.intro ?_ ?_; focus (simp only [zl1, zl2, zl3, zl4, zl5, zl6, zl7, zl8, zl9] <;> omega)) | (refine Cnd.tt ?_ ?_; focus (first | (apply decide_eq_true; omega) | (simp only [zq1, zq2, zq3, zq4, zq5, zq6, zq7, zq8, zq9, zq10, zq11, zq12] <;> omega) | rfl)) | (refine Cnd.ff ?_ ?_; focus (first | (apply decide_eq_false; omega) | (simp only [zq1, zq2, zq3, zq4, zq5, zq6, zq7, zq8, zq9, zq10, zq11, zq12] <;> omega) | rfl))))
    conv => whnf
    refine Cnd.mk (fun hlt => ?_) fun hge => ?_
    · have hin : i < L.length := by have := of_decide_eq_true hlt; omega
      obtain ⟨x, hx⟩ : ∃ x, L[i]? = some x := ⟨_, List.getElem?_eq_getElem hin⟩
      have hd : L.drop i = x :: L.drop (i + 1) := by
        rw [List.drop_eq_getElem_cons hin]
        congr 1
        rw [List.getElem?_eq_getElem hin] at hx
        exact Option.some.inj hx
      have ht : L.take (i + 1) = L.take i ++ [x] := by rw [List.take_add_one, hx]; rfl
      have hc1 : cntA ids (L.take (i + 1)) = cntA ids (L.take i) + (if x.1 ∈ ids ∧ x.2 = false then 1 else 0) := by rw [ht, cntA_app]; simp [cntA]
      have hcl := cntA_le ids (L.take i)
      have htl : (L.take i).length = i := by rw [List.length_take]; omega
      have hL0 : pre ++ ((L.take i).map (markA ids) ++ L.drop i) ++ post = (pre ++ (L.take i).map (markA ids)) ++ x :: (L.drop (i + 1) ++ post) := by rw [hd]; simp
      have hL1 : pre ++ ((L.take (i + 1)).map (markA ids) ++ L.drop (i + 1)) ++ post = (pre ++ (L.take i).map (markA ids)) ++ markA ids x :: (L.drop (i + 1) ++ post) := by rw [ht]; simp
      have hlen : pre.length + (i : Int).toNat = (pre ++ (L.take i).map (markA ids)).length := by simp; omega
      have hll : ((pre ++ (L.take i).map (markA ids)) ++ x :: (L.drop (i + 1) ++ post)).length = pre.length + L.length + post.length := by simp; omega
      obtain ⟨u, b⟩ := x
      have c0 := cell_at orow (pre ++ (L.take i).map (markA ids)) (L.drop (i + 1) ++ post) (u, b) 0 hlen
      have c1 := cell_at orow (pre ++ (L.take i).map (markA ids)) (L.drop (i + 1) ++ post) (u, b) 1 hlen
      rw [hL0]
      repeat ((conv => whnf); (first | refine Cnd.yes ?_ | refine Cnd.no ?_ | refine And.intro rfl ?_ | refine And.intro (by omega) ?_ | (refine And.intro ?_ ?_; focus (simp only [IntKind.wrap_i64, IntKind.wrap_u64, IntKind.wrap_u32]; omega)) | (refine And.intro ?_ ?_; focus (simp only [zl1, zl2, zl3, zl4, zl5, zl6, zl7, zl8, zl9] <;> omega)) | (refine Cnd.tt ?_ ?_; focus (first | (apply decide_eq_true; omega) | (simp only [zq1, zq2, zq3, zq4, zq5, zq6, zq7, zq8, zq9, zq10, zq11, zq12] <;> omega) | rfl)) | (refine Cnd.ff ?_ ?_; focus (first | (apply decide_eq_false; omega) | (simp only [zq1, zq2, zq3, zq4, zq5, zq6, zq7, zq8, zq9, zq10, zq11, zq12] <;> omega) | rfl))))
      conv => whnf
      rw [c1]
      cases b with
      | true =>
        have hm : markA ids (u, true) = (u, true) := rfl
        rw [hm] at hL1
        rw [if_neg (by simp)] at hc1
        repeat ((conv => whnf); (first | refine Cnd.yes ?_ | refine Cnd.no ?_ | refine And.intro rfl ?_ | refine And.intro (by omega) ?_ | (refine And.intro ?_ ?_; focus (simp only [IntKind.wrap_i64, IntKind.wrap_u64, IntKind.wrap_u32]; omega)) | (refine And.intro ?_ ?_; focus (simp only [zl1, zl2, zl3, zl4, zl5, zl6, zl7, zl8, zl9] <;> omega)) | (refine Cnd.tt ?_ ?_; focus (first | (apply decide_eq_true; omega) | (simp only [zq1, zq2, zq3, zq4, zq5, zq6, zq7, zq8, zq9, zq10, zq11, zq12] <;> omega) | rfl)) | (refine Cnd.ff ?_ ?_; focus (first | (apply decide_eq_false; omega) | (simp only [zq1, zq2, zq3, zq4, zq5, zq6, zq7, zq8, zq9, zq10, zq11, zq12] <;> omega) | rfl))))
        conv => whnf
        (refine ⟨(fun s : Nat => L.length - s) (i + 1), [0, 1, 2], tmk 47 0 ((fun s : Nat => [(0, .ptr 0 0 0 0), (1, .slc 2 1 0 ids.length), (5, .v (.int .i64 (cntA ids (L.take s) : Nat))), (6, .v (.int .i64 s))]) (i + 1)), (fun s : Nat => [Ent.cells 44 [.v (.int .i64 n), .v (.int .i64 nx), .slc 1 2 pre.length L.length], .row true 52 [.int .i64, .bool] ((pre ++ ((L.take s).map (markA ids) ++ L.drop s) ++ post).map orow), .row o e [.int .i64] (ids.map irow)]) (i + 1), ?_, ?_⟩; focus (first | (simp only []; omega) | omega))
        repeat ((conv => whnf); (first | refine Cnd.yes ?_ | refine Cnd.no ?_ | refine And.intro rfl ?_ | refine And.intro (by omega) ?_ | (refine And.intro ?_ ?_; focus (simp only [IntKind.wrap_i64, IntKind.wrap_u64, IntKind.wrap_u32]; omega)) | (refine And.intro ?_ ?_; focus (simp only [zl1, zl2, zl3, zl4, zl5, zl6, zl7, zl8, zl9] <;> omega))))
        conv => whnf
        refine ⟨by rw [hL1], ?_⟩
        repeat ((conv => whnf); (first | refine Cnd.yes ?_ | refine Cnd.no ?_ | refine And.intro rfl ?_ | refine And.intro (by omega) ?_ | (refine And.intro ?_ ?_; focus (simp only [IntKind.wrap_i64, IntKind.wrap_u64, IntKind.wrap_u32]; omega)) | (refine And.intro ?_ ?_; focus (simp only [zl1, zl2, zl3, zl4, zl5, zl6, zl7, zl8, zl9] <;> omega))))
        conv => whnf
        exact ⟨i + 1, hin, rfl, rfl, (tmkK_eq _ _ _ _).mpr rfl, rfl⟩
      | false =>
        repeat ((conv => whnf); (first | refine Cnd.yes ?_ | refine Cnd.no ?_ | refine And.intro rfl ?_ | refine And.intro (by omega) ?_ | (refine And.intro ?_ ?_; focus (simp only [IntKind.wrap_i64, IntKind.wrap_u64, IntKind.wrap_u32]; omega)) | (refine And.intro ?_ ?_; focus (simp only [zl1, zl2, zl3, zl4, zl5, zl6, zl7, zl8, zl9] <;> omega)) | (refine Cnd.tt ?_ ?_; focus (first | (apply decide_eq_true; omega) | (simp only [zq1, zq2, zq3, zq4, zq5, zq6, zq7, zq8, zq9, zq10, zq11, zq12] <;> omega) | rfl)) | (refine Cnd.ff ?_ ?_; focus (first | (apply decide_eq_false; omega) | (simp only [zq1, zq2, zq3, zq4, zq5, zq6, zq7, zq8, zq9, zq10, zq11, zq12] <;> omega) | rfl))))
        conv => whnf
        rw [c0]
        refine ⟨ids, u, o, e, rfl, rfl, by omega, ?_⟩
        by_cases hu : u ∈ ids
        · rw [decide_eq_true hu]
          have hm : markA ids (u, false) = (u, true) := by simp [markA, hu]
          rw [hm] at hL1
          rw [if_pos (by simp [hu])] at hc1
          repeat ((conv => whnf); (first | refine Cnd.yes ?_ | refine Cnd.no ?_ | refine And.intro rfl ?_ | refine And.intro (by omega) ?_ | (refine And.intro ?_ ?_; focus (simp only [IntKind.wrap_i64, IntKind.wrap_u64, IntKind.wrap_u32]; omega)) | (refine And.intro ?_ ?_; focus (simp only [zl1, zl2, zl3, zl4, zl5, zl6, zl7, zl8, zl9] <;> omega)) | (refine Cnd.tt ?_ ?_; focus (first | (apply decide_eq_true; omega) | (simp only [zq1, zq2, zq3, zq4, zq5, zq6, zq7, zq8, zq9, zq10, zq11, zq12] <;> omega) | rfl)) | (refine Cnd.ff ?_ ?_; focus (first | (apply decide_eq_false; omega) | (simp only [zq1, zq2, zq3, zq4, zq5, zq6, zq7, zq8, zq9, zq10, zq11, zq12] <;> omega) | rfl))))
          conv => whnf
          rw [set_at orow (pre ++ (L.take i).map (markA ids)) (L.drop (i + 1) ++ post) (u, false) (u, true) _ _ hlen (by simp [orow, over])]
          repeat ((conv => whnf); (first | refine Cnd.yes ?_ | refine Cnd.no ?_ | refine And.intro rfl ?_ | refine And.intro (by omega) ?_ | (refine And.intro ?_ ?_; focus (simp only [IntKind.wrap_i64, IntKind.wrap_u64, IntKind.wrap_u32]; omega)) | (refine And.intro ?_ ?_; focus (simp only [zl1, zl2, zl3, zl4, zl5, zl6, zl7, zl8, zl9] <;> omega)) | (refine Cnd.tt ?_ ?_; focus (first | (apply decide_eq_true; omega) | (simp only [zq1, zq2, zq3, zq4, zq5, zq6, zq7, zq8, zq9, zq10, zq11, zq12] <;> omega) | rfl)) | (refine Cnd.ff ?_ ?_; focus (first | (apply decide_eq_false; omega) | (simp only [zq1, zq2, zq3, zq4, zq5, zq6, zq7, zq8, zq9, zq10, zq11, zq12] <;> omega) | rfl))))
          conv => whnf
          (refine ⟨(fun s : Nat => L.length - s) (i + 1), [0, 1, 2], tmk 47 0 ((fun s : Nat => [(0, .ptr 0 0 0 0), (1, .slc 2 1 0 ids.length), (5, .v (.int .i64 (cntA ids (L.take s) : Nat))), (6, .v (.int .i64 s))]) (i + 1)), (fun s : Nat => [Ent.cells 44 [.v (.int .i64 n), .v (.int .i64 nx), .slc 1 2 pre.length L.length], .row true 52 [.int .i64, .bool] ((pre ++ ((L.take s).map (markA ids) ++ L.drop s) ++ post).map orow), .row o e [.int .i64] (ids.map irow)]) (i + 1), ?_, ?_⟩; focus (first | (simp only []; omega) | omega))
          repeat ((conv => whnf); (first | refine Cnd.yes ?_ | refine Cnd.no ?_ | refine And.intro rfl ?_ | refine And.intro (by omega) ?_ | (refine And.intro ?_ ?_; focus (simp only [IntKind.wrap_i64, IntKind.wrap_u64, IntKind.wrap_u32]; omega)) | (refine And.intro ?_ ?_; focus (simp only [zl1, zl2, zl3, zl4, zl5, zl6, zl7, zl8, zl9] <;> omega))))
          conv => whnf
          refine ⟨by rw [hL1], ?_⟩
          repeat ((conv => whnf); (first | refine Cnd.yes ?_ | refine Cnd.no ?_ | refine And.intro rfl ?_ | refine And.intro (by omega) ?_ | (refine And.intro ?_ ?_; focus (simp only [IntKind.wrap_i64, IntKind.wrap_u64, IntKind.wrap_u32]; omega)) | (refine And.intro ?_ ?_; focus (simp only [zl1, zl2, zl3, zl4, zl5, zl6, zl7, zl8, zl9] <;> omega))))
          conv => whnf
          exact ⟨i + 1, hin, rfl, rfl, (tmkK_eq _ _ _ _).mpr rfl, rfl⟩
        · rw [decide_eq_false hu]
          have hm : markA ids (u, false) = (u, false) := by simp [markA, hu]
          rw [hm] at hL1
          rw [if_neg (by simp [hu])] at hc1
          repeat ((conv => whnf); (first | refine Cnd.yes ?_ | refine Cnd.no ?_ | refine And.intro rfl ?_ | refine And.intro (by omega) ?_ | (refine And.intro ?_ ?_; focus (simp only [IntKind.wrap_i64, IntKind.wrap_u64, IntKind.wrap_u32]; omega)) | (refine And.intro ?_ ?_; focus (simp only [zl1, zl2, zl3, zl4, zl5, zl6, zl7, zl8, zl9] <;> omega)) | (refine Cnd.tt ?_ ?_; focus (first | (apply decide_eq_true; omega) | (simp only [zq1, zq2, zq3, zq4, zq5, zq6, zq7, zq8, zq9, zq10, zq11, zq12] <;> omega) | rfl)) | (refine Cnd.ff ?_ ?_; focus (first | (apply decide_eq_false; omega) | (simp only [zq1, zq2, zq3, zq4, zq5, zq6, zq7, zq8, zq9, zq10, zq11, zq12] <;> omega) | rfl))))
          conv => whnf
          (refine ⟨(fun s : Nat => L.length - s) (i + 1), [0, 1, 2], tmk 47 0 ((fun s : Nat => [(0, .ptr 0 0 0 0), (1, .slc 2 1 0 ids.length), (5, .v (.int .i64 (cntA ids (L.take s) : Nat))), (6, .v (.int .i64 s))]) (i + 1)), (fun s : Nat => [Ent.cells 44 [.v (.int .i64 n), .v (.int .i64 nx), .slc 1 2 pre.length L.length], .row true 52 [.int .i64, .bool] ((pre ++ ((L.take s).map (markA ids) ++ L.drop s) ++ post).map orow), .row o e [.int .i64] (ids.map irow)]) (i + 1), ?_, ?_⟩; focus (first | (simp only []; omega) | omega))
          repeat ((conv => whnf); (first | refine Cnd.yes ?_ | refine Cnd.no ?_ | refine And.intro rfl ?_ | refine And.intro (by omega) ?_ | (refine And.intro ?_ ?_; focus (simp only [IntKind.wrap_i64, IntKind.wrap_u64, IntKind.wrap_u32]; omega)) | (refine And.intro ?_ ?_; focus (simp only [zl1, zl2, zl3, zl4, zl5, zl6, zl7, zl8, zl9] <;> omega))))
          conv => whnf
          refine ⟨by rw [hL1], ?_⟩
          repeat ((conv => whnf); (first | refine Cnd.yes ?_ | refine Cnd.no ?_ | refine And.intro rfl ?_ | refine And.intro (by omega) ?_ | (refine And.intro ?_ ?_; focus (simp only [IntKind.wrap_i64, IntKind.wrap_u64, IntKind.wrap_u32]; omega)) | (refine And.intro ?_ ?_; focus (simp only [zl1, zl2, zl3, zl4, zl5, zl6, zl7, zl8, zl9] <;> omega))))
          conv => whnf
          exact ⟨i + 1, hin, rfl, rfl, (tmkK_eq _ _ _ _).mpr rfl, rfl⟩
    · have hin : i = L.length := by have := of_decide_eq_false hge; omega
      subst hin
      repeat ((conv => whnf); (first | refine Cnd.yes ?_ | refine Cnd.no ?_ | refine And.intro rfl ?_ | refine And.intro (by omega) ?_ | (refine And.intro ?_ ?_; focus (simp only [IntKind.wrap_i64, IntKind.wrap_u64, IntKind.wrap_u32]; omega)) | (refine And.intro ?_ ?_; focus (simp only [zl1, zl2, zl3, zl4, zl5, zl6, zl7, zl8, zl9] <;> omega)) | (refine Cnd.tt ?_ ?_; focus (first | (apply decide_eq_true; omega) | (simp only [zq1, zq2, zq3, zq4, zq5, zq6, zq7, zq8, zq9, zq10, zq11, zq12] <;> omega) | rfl)) | (refine Cnd.ff ?_ ?_; focus (first | (apply decide_eq_false; omega) | (simp only [zq1, zq2, zq3, zq4, zq5, zq6, zq7, zq8, zq9, zq10, zq11, zq12] <;> omega) | rfl))))
      conv => whnf
      rw [List.take_length, List.drop_length, List.append_nil]
      unfold xdHp at hK
      rw [List.length_map] at hK
      exact hK
def xdoneS : Vc.Spec := fun args hp _ K => ∃ (n nx : Int) (pre : List (Int × Bool)) (e : TypeId) (o : Bool) (L post : List (Int × Bool)) (ids : List Int), args = [.ptr 0 0 0 0, .slc 2 1 0 ids.length] ∧ hp = xdHp n nx pre e o L post ids ∧ L.length ≤ 1000 ∧ ids.length ≤ 1000 ∧ K (.v (.int .i64 (cntA ids L : Nat))) (xdHp n nx pre e o (L.map (markA ids)) post ids)
theorem xdone_ok : SOK Tryd.prog 17 xdoneS := by
  refine TOK.weaken (runF_eq GJ_ok mixed at17.1 at17.2 pf17_eq) fun args hp M K h => ?_
  obtain ⟨n, nx, pre, e, o, L, post, ids, rfl, rfl, h1, h2, h3⟩ := h
  exact xdone_run M K n nx pre e o L post ids h1 h2 h3
end Go.Proofs.YthmofpilphfkcaaDoor
