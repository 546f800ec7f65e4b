/-
  The document's TLB: find, Ptes, Find, SamePtes, walked; their contracts.
-/
import Derived.Test.YtdmcdlgcmeledaaDoorCf
namespace Go.Proofs.YtdmcdlgcmeledaaDoor
open Go Go.Vc
set_option maxRecDepth 100000
set_option linter.unusedSimpArgs false
set_option linter.unusedVariables false
def rHp (o : Bool) (n : Int) (l : List One) : List Ent := [cellsB o 34 [.v (.int .i64 n), .slc 1 2 0 l.length], .row o 50 ock (l.map orow)]
theorem cell_map {α : Type} (f : α → List Value) (l : List α) (d : α) {i : Nat} (hi : i < l.length) (k : Nat) : cellAt (l.map f) (0 + (i : Int).toNat) k = (f (l.getD i d)).getD k undef := by
  rw [Nat.zero_add, Int.toNat_natCast]
  simp [cellAt, List.getD, hi]
theorem rat_runT (M : HL) (K : SV → List Ent → HL → Prop) (n : Int) (l : List One) (p : Int) (hl : l.length ≤ 1000) (hK : ∀ k, IsAt l p k → K (.v (.int .i64 k)) (rHp true n l) M) :
    runF G0 pf25 [.ptr 0 0 0 0, .v (.int .u32 p)] (rHp true n l) M K := by
  repeat ((conv => whnf); (first | refine Cnd.yes ?_ | refine Cnd.no ?_ | refine And.intro rfl ?_ | refine And.intro (by omega) ?_ | (refine And.intro ?_ ?_; focus (simp only [IntKind.wrap_i64, IntKind.wrap_u64, IntKind.wrap_u32]; omega)) | (refine And.intro ?_ ?_; focus (simp only [zl1, zl2, zl3, zl4, zl5, zl6, zl7, zl8] <;> omega)) | (refine Cnd.tt ?_ ?_; focus (first | (apply decide_eq_true; omega) | (simp only [zq1, zq2, zq3, zq4, zq5, zq6, zq7, zq8, zq9, zq10, zq11, zq12] <;> omega) | rfl)) | (refine Cnd.ff ?_ ?_; focus (first | (apply decide_eq_false; omega) | (simp only [zq1, zq2, zq3, zq4, zq5, zq6, zq7, zq8, zq9, zq10, zq11, zq12] <;> omega) | rfl))))
  conv => whnf
  refine ⟨InvS 26 (fun s : Nat => l.length - s) (fun s : Nat => s ≤ l.length ∧ ∀ j, j < s → (l.getD j default).p ≠ p) (fun s : Nat => [(0, .ptr 0 0 0 0), (1, .v (.int .u32 p)), (5, .v (.int .i64 s))]) (fun s : Nat => rHp true n l) M, ⟨(fun s : Nat => l.length - s) 0, [0, 1], tmk 26 0 ((fun s : Nat => [(0, .ptr 0 0 0 0), (1, .v (.int .u32 p)), (5, .v (.int .i64 s))]) 0), (fun s : Nat => rHp true n l) 0, ?_⟩, ?_⟩
  · repeat ((conv => whnf); (first | refine Cnd.yes ?_ | refine Cnd.no ?_ | refine And.intro rfl ?_ | refine And.intro (by omega) ?_ | (refine And.intro ?_ ?_; focus (simp only [IntKind.wrap_i64, IntKind.wrap_u64, IntKind.wrap_u32]; omega)) | (refine And.intro ?_ ?_; focus (simp only [zl1, zl2, zl3, zl4, zl5, zl6, zl7, zl8] <;> omega))))
    conv => whnf
    exact ⟨0, ⟨by omega, fun j hj => by omega⟩, rfl, rfl, (tmkK_eq _ _ _ _).mpr rfl, rfl⟩
  · rintro cnt tm hp M1 ⟨i, hC_, rfl, rfl, htm, hhp_⟩
    replace hC_ : i ≤ l.length ∧ ∀ j, j < i → (l.getD j default).p ≠ p := hC_
    obtain ⟨hi, hall⟩ := hC_
    replace htm : tmkK 26 0 [(0, .ptr 0 0 0 0), (1, .v (.int .u32 p)), (5, .v (.int .i64 i))] (fun l => tm = l) := htm
    conv at htm => whnf
    subst htm
    replace hhp_ : hp = rHp true n l := hhp_
    subst hhp_
    repeat ((conv => whnf); (first | refine Cnd.yes ?_ | refine Cnd.no ?_ | refine And.intro rfl ?_ | refine And.intro (by omega) ?_ | (refine And.intro ?_ ?_; focus (simp only [IntKind.wrap_i64, IntKind.wrap_u64, IntKind.wrap_u32]; omega)) | (refine And.intro ?_ ?_; focus (simp only [zl1, zl2, zl3, zl4, zl5, zl6, zl7, zl8] <;> omega)) | (refine Cnd.tt ?_ ?_; focus (first | (apply decide_eq_true; omega) | (simp only [zq1, zq2, zq3, zq4, zq5, zq6, zq7, zq8, zq9, zq10, zq11, zq12] <;> omega) | rfl)) | (refine Cnd.ff ?_ ?_; focus (first | (apply decide_eq_false; omega) | (simp only [zq1, zq2, zq3, zq4, zq5, zq6, zq7, zq8, zq9, zq10, zq11, zq12] <;> omega) | rfl))))
    conv => whnf
    refine Cnd.mk (fun hlt => ?_) fun hge => ?_
    · have hin : i < l.length := by have := of_decide_eq_true hlt; omega
      have hc := fun k => cell_map orow l default hin k
      have e0 : toI (cellAt (l.map orow) (0 + (i : Int).toNat) (0 + 0)) = (l.getD i default).p := by rw [hc]; rfl
      by_cases hp : (l.getD i default).p = p
      · repeat ((conv => whnf); (first | refine Cnd.yes ?_ | refine Cnd.no ?_ | refine And.intro rfl ?_ | refine And.intro (by omega) ?_ | (refine And.intro ?_ ?_; focus (simp only [IntKind.wrap_i64, IntKind.wrap_u64, IntKind.wrap_u32]; omega)) | (refine And.intro ?_ ?_; focus (simp only [zl1, zl2, zl3, zl4, zl5, zl6, zl7, zl8] <;> omega)) | (refine Cnd.tt ?_ ?_; focus (first | (apply decide_eq_true; omega) | (simp only [zq1, zq2, zq3, zq4, zq5, zq6, zq7, zq8, zq9, zq10, zq11, zq12] <;> omega) | rfl)) | (refine Cnd.ff ?_ ?_; focus (first | (apply decide_eq_false; omega) | (simp only [zq1, zq2, zq3, zq4, zq5, zq6, zq7, zq8, zq9, zq10, zq11, zq12] <;> omega) | rfl))))
        conv => whnf
        exact hK _ (.inl ⟨i, rfl, hin, hp, hall⟩)
      · repeat ((conv => whnf); (first | refine Cnd.yes ?_ | refine Cnd.no ?_ | refine And.intro rfl ?_ | refine And.intro (by omega) ?_ | (refine And.intro ?_ ?_; focus (simp only [IntKind.wrap_i64, IntKind.wrap_u64, IntKind.wrap_u32]; omega)) | (refine And.intro ?_ ?_; focus (simp only [zl1, zl2, zl3, zl4, zl5, zl6, zl7, zl8] <;> omega)) | (refine Cnd.tt ?_ ?_; focus (first | (apply decide_eq_true; omega) | (simp only [zq1, zq2, zq3, zq4, zq5, zq6, zq7, zq8, zq9, zq10, zq11, zq12] <;> omega) | rfl)) | (refine Cnd.ff ?_ ?_; focus (first | (apply decide_eq_false; omega) | (simp only [zq1, zq2, zq3, zq4, zq5, zq6, zq7, zq8, zq9, zq10, zq11, zq12] <;> omega) | rfl))))
        conv => whnf
        (refine ⟨(fun s : Nat => l.length - s) (i + 1), [0, 1], tmk 26 0 ((fun s : Nat => [(0, .ptr 0 0 0 0), (1, .v (.int .u32 p)), (5, .v (.int .i64 s))]) (i + 1)), (fun s : Nat => rHp true n l) (i + 1), ?_, ?_⟩; focus (first | (simp only []; omega) | omega))
        repeat ((conv => whnf); (first | refine Cnd.yes ?_ | refine Cnd.no ?_ | refine And.intro rfl ?_ | refine And.intro (by omega) ?_ | (refine And.intro ?_ ?_; focus (simp only [IntKind.wrap_i64, IntKind.wrap_u64, IntKind.wrap_u32]; omega)) | (refine And.intro ?_ ?_; focus (simp only [zl1, zl2, zl3, zl4, zl5, zl6, zl7, zl8] <;> omega))))
        conv => whnf
        exact ⟨i + 1, ⟨by omega, fun j hj => by rcases Nat.lt_succ_iff_lt_or_eq.1 hj with h | h; exact hall j h; rw [h]; exact hp⟩, rfl, rfl, (tmkK_eq _ _ _ _).mpr rfl, rfl⟩
    · have hin : i = l.length := by have := of_decide_eq_false hge; omega
      repeat ((conv => whnf); (first | refine Cnd.yes ?_ | refine Cnd.no ?_ | refine And.intro rfl ?_ | refine And.intro (by omega) ?_ | (refine And.intro ?_ ?_; focus (simp only [IntKind.wrap_i64, IntKind.wrap_u64, IntKind.wrap_u32]; omega)) | (refine And.intro ?_ ?_; focus (simp only [zl1, zl2, zl3, zl4, zl5, zl6, zl7, zl8] <;> omega)) | (refine Cnd.tt ?_ ?_; focus (first | (apply decide_eq_true; omega) | (simp only [zq1, zq2, zq3, zq4, zq5, zq6, zq7, zq8, zq9, zq10, zq11, zq12] <;> omega) | rfl)) | (refine Cnd.ff ?_ ?_; focus (first | (apply decide_eq_false; omega) | (simp only [zq1, zq2, zq3, zq4, zq5, zq6, zq7, zq8, zq9, zq10, zq11, zq12] <;> omega) | rfl))))
      conv => whnf
      exact hK _ (.inr ⟨rfl, by rw [← hin]; exact hall⟩)
theorem rat_runF (M : HL) (K : SV → List Ent → HL → Prop) (n : Int) (l : List One) (p : Int) (hl : l.length ≤ 1000) (hK : ∀ k, IsAt l p k → K (.v (.int .i64 k)) (rHp false n l) M) :
    runF G0 pf25 [.ptr 0 0 0 0, .v (.int .u32 p)] (rHp false n l) M K := by
  repeat ((conv => whnf); (first | refine Cnd.yes ?_ | refine Cnd.no ?_ | refine And.intro rfl ?_ | refine And.intro (by omega) ?_ | (refine And.intro ?_ ?_; focus (simp only [IntKind.wrap_i64, IntKind.wrap_u64, IntKind.wrap_u32]; omega)) | (refine And.intro ?_ ?_; focus (simp only [zl1, zl2, zl3, zl4, zl5, zl6, zl7, zl8] <;> omega)) | (refine Cnd.tt ?_ ?_; focus (first | (apply decide_eq_true; omega) | (simp only [zq1, zq2, zq3, zq4, zq5, zq6, zq7, zq8, zq9, zq10, zq11, zq12] <;> omega) | rfl)) | (refine Cnd.ff ?_ ?_; focus (first | (apply decide_eq_false; omega) | (simp only [zq1, zq2, zq3, zq4, zq5, zq6, zq7, zq8, zq9, zq10, zq11, zq12] <;> omega) | rfl))))
  conv => whnf
  refine ⟨InvS 26 (fun s : Nat => l.length - s) (fun s : Nat => s ≤ l.length ∧ ∀ j, j < s → (l.getD j default).p ≠ p) (fun s : Nat => [(0, .ptr 0 0 0 0), (1, .v (.int .u32 p)), (5, .v (.int .i64 s))]) (fun s : Nat => rHp false n l) M, ⟨(fun s : Nat => l.length - s) 0, [0, 1], tmk 26 0 ((fun s : Nat => [(0, .ptr 0 0 0 0), (1, .v (.int .u32 p)), (5, .v (.int .i64 s))]) 0), (fun s : Nat => rHp false n l) 0, ?_⟩, ?_⟩
  · repeat ((conv => whnf); (first | refine Cnd.yes ?_ | refine Cnd.no ?_ | refine And.intro rfl ?_ | refine And.intro (by omega) ?_ | (refine And.intro ?_ ?_; focus (simp only [IntKind.wrap_i64, IntKind.wrap_u64, IntKind.wrap_u32]; omega)) | (refine And.intro ?_ ?_; focus (simp only [zl1, zl2, zl3, zl4, zl5, zl6, zl7, zl8] <;> omega))))
    conv => whnf
    exact ⟨0, ⟨by omega, fun j hj => by omega⟩, rfl, rfl, (tmkK_eq _ _ _ _).mpr rfl, rfl⟩
  · rintro cnt tm hp M1 ⟨i, hC_, rfl, rfl, htm, hhp_⟩
    replace hC_ : i ≤ l.length ∧ ∀ j, j < i → (l.getD j default).p ≠ p := hC_
    obtain ⟨hi, hall⟩ := hC_
    replace htm : tmkK 26 0 [(0, .ptr 0 0 0 0), (1, .v (.int .u32 p)), (5, .v (.int .i64 i))] (fun l => tm = l) := htm
    conv at htm => whnf
    subst htm
    replace hhp_ : hp = rHp false n l := hhp_
    subst hhp_
    repeat ((conv => whnf); (first | refine Cnd.yes ?_ | refine Cnd.no ?_ | refine And.intro rfl ?_ | refine And.intro (by omega) ?_ | (refine And.intro ?_ ?_; focus (simp only [IntKind.wrap_i64, IntKind.wrap_u64, IntKind.wrap_u32]; omega)) | (refine And.intro ?_ ?_; focus (simp only [zl1, zl2, zl3, zl4, zl5, zl6, zl7, zl8] <;> omega)) | (refine Cnd.tt ?_ ?_; focus (first | (apply decide_eq_true; omega) | (simp only [zq1, zq2, zq3, zq4, zq5, zq6, zq7, zq8, zq9, zq10, zq11, zq12] <;> omega) | rfl)) | (refine Cnd.ff ?_ ?_; focus (first | (apply decide_eq_false; omega) | (simp only [zq1, zq2, zq3, zq4, zq5, zq6, zq7, zq8, zq9, zq10, zq11, zq12] <;> omega) | rfl))))
    conv => whnf
    refine Cnd.mk (fun hlt => ?_) fun hge => ?_
    · have hin : i < l.length := by have := of_decide_eq_true hlt; omega
      have hc := fun k => cell_map orow l default hin k
      have e0 : toI (cellAt (l.map orow) (0 + (i : Int).toNat) (0 + 0)) = (l.getD i default).p := by rw [hc]; rfl
      by_cases hp : (l.getD i default).p = p
      · repeat ((conv => whnf); (first | refine Cnd.yes ?_ | refine Cnd.no ?_ | refine And.intro rfl ?_ | refine And.intro (by omega) ?_ | (refine And.intro ?_ ?_; focus (simp only [IntKind.wrap_i64, IntKind.wrap_u64, IntKind.wrap_u32]; omega)) | (refine And.intro ?_ ?_; focus (simp only [zl1, zl2, zl3, zl4, zl5, zl6, zl7, zl8] <;> omega)) | (refine Cnd.tt ?_ ?_; focus (first | (apply decide_eq_true; omega) | (simp only [zq1, zq2, zq3, zq4, zq5, zq6, zq7, zq8, zq9, zq10, zq11, zq12] <;> omega) | rfl)) | (refine Cnd.ff ?_ ?_; focus (first | (apply decide_eq_false; omega) | (simp only [zq1, zq2, zq3, zq4, zq5, zq6, zq7, zq8, zq9, zq10, zq11, zq12] <;> omega) | rfl))))
        conv => whnf
        exact hK _ (.inl ⟨i, rfl, hin, hp, hall⟩)
      · repeat ((conv => whnf); (first | refine Cnd.yes ?_ | refine Cnd.no ?_ | refine And.intro rfl ?_ | refine And.intro (by omega) ?_ | (refine And.intro ?_ ?_; focus (simp only [IntKind.wrap_i64, IntKind.wrap_u64, IntKind.wrap_u32]; omega)) | (refine And.intro ?_ ?_; focus (simp only [zl1, zl2, zl3, zl4, zl5, zl6, zl7, zl8] <;> omega)) | (refine Cnd.tt ?_ ?_; focus (first | (apply decide_eq_true; omega) | (simp only [zq1, zq2, zq3, zq4, zq5, zq6, zq7, zq8, zq9, zq10, zq11, zq12] <;> omega) | rfl)) | (refine Cnd.ff ?_ ?_; focus (first | (apply decide_eq_false; omega) | (simp only [zq1, zq2, zq3, zq4, zq5, zq6, zq7, zq8, zq9, zq10, zq11, zq12] <;> omega) | rfl))))
        conv => whnf
        (refine ⟨(fun s : Nat => l.length - s) (i + 1), [0, 1], tmk 26 0 ((fun s : Nat => [(0, .ptr 0 0 0 0), (1, .v (.int .u32 p)), (5, .v (.int .i64 s))]) (i + 1)), (fun s : Nat => rHp false n l) (i + 1), ?_, ?_⟩; focus (first | (simp only []; omega) | omega))
        repeat ((conv => whnf); (first | refine Cnd.yes ?_ | refine Cnd.no ?_ | refine And.intro rfl ?_ | refine And.intro (by omega) ?_ | (refine And.intro ?_ ?_; focus (simp only [IntKind.wrap_i64, IntKind.wrap_u64, IntKind.wrap_u32]; omega)) | (refine And.intro ?_ ?_; focus (simp only [zl1, zl2, zl3, zl4, zl5, zl6, zl7, zl8] <;> omega))))
        conv => whnf
        exact ⟨i + 1, ⟨by omega, fun j hj => by rcases Nat.lt_succ_iff_lt_or_eq.1 hj with h | h; exact hall j h; rw [h]; exact hp⟩, rfl, rfl, (tmkK_eq _ _ _ _).mpr rfl, rfl⟩
    · have hin : i = l.length := by have := of_decide_eq_false hge; omega
      repeat ((conv => whnf); (first | refine Cnd.yes ?_ | refine Cnd.no ?_ | refine And.intro rfl ?_ | refine And.intro (by omega) ?_ | (refine And.intro ?_ ?_; focus (simp only [IntKind.wrap_i64, IntKind.wrap_u64, IntKind.wrap_u32]; omega)) | (refine And.intro ?_ ?_; focus (simp only [zl1, zl2, zl3, zl4, zl5, zl6, zl7, zl8] <;> omega)) | (refine Cnd.tt ?_ ?_; focus (first | (apply decide_eq_true; omega) | (simp only [zq1, zq2, zq3, zq4, zq5, zq6, zq7, zq8, zq9, zq10, zq11, zq12] <;> omega) | rfl)) | (refine Cnd.ff ?_ ?_; focus (first | (apply decide_eq_false; omega) | (simp only [zq1, zq2, zq3, zq4, zq5, zq6, zq7, zq8, zq9, zq10, zq11, zq12] <;> omega) | rfl))))
      conv => whnf
      exact hK _ (.inr ⟨rfl, by rw [← hin]; exact hall⟩)
def ratS : Vc.Spec := fun args hp _ K => ∃ (o : Bool) (n : Int) (l : List One) (p : Int), args = [.ptr 0 0 0 0, .v (.int .u32 p)] ∧ hp = rHp o n l ∧ l.length ≤ 1000 ∧ ∀ k, IsAt l p k → K (.v (.int .i64 k)) (rHp o n l)
theorem rat_ok : SOK Tryd.prog 25 ratS := by
  refine TOK.weaken (runF_eq G0_ok mixed at25.1 at25.2 pf25_eq) fun args hp M K h => ?_
  obtain ⟨o, n, l, p, rfl, rfl, h1, h2⟩ := h
  cases o with
  | true => exact rat_runT M K n l p h1 h2
  | false => exact rat_runF M K n l p h1 h2
/-- A page table entry, as a row. -/
structure Pte where
  a : Int
  b : Int
  c : Int
  d : Int
  f : Bool
deriving DecidableEq, Inhabited
def prow (x : Pte) : List Value := [.int .u32 x.a, .int .u32 x.b, .int .u32 x.c, .int .i64 x.d, .bool x.f]
theorem ptes_run (M : HL) (K : SV → List Ent → HL → Prop) (o : Bool) (e : TypeId) (l : List Pte) (hl : l.length ≤ 1000) (hK : K (.slc 1 5 0 l.length) [.row o e pck (l.map prow), .row true 42 pck (l.map prow)] M) :
    runF G0 pf26 [.slc 0 5 0 l.length] [.row o e pck (l.map prow)] M fun v hp2 M2 => ∃ m v' hp', Wk (llen [Ent.row o e pck (l.map prow)]) m [v] hp2 [v'] hp' (K v' hp' M2) := by
  repeat ((conv => whnf); (first | refine Cnd.yes ?_ | refine Cnd.no ?_ | refine And.intro rfl ?_ | refine And.intro (by omega) ?_ | (refine And.intro ?_ ?_; focus (simp only [IntKind.wrap_i64, IntKind.wrap_u64, IntKind.wrap_u32]; omega)) | (refine And.intro ?_ ?_; focus (simp only [zl1, zl2, zl3, zl4, zl5, zl6, zl7, zl8] <;> omega)) | (refine Cnd.tt ?_ ?_; focus (first | (apply decide_eq_true; omega) | (simp only [zq1, zq2, zq3, zq4, zq5, zq6, zq7, zq8, zq9, zq10, zq11, zq12] <;> omega) | rfl)) | (refine Cnd.ff ?_ ?_; focus (first | (apply decide_eq_false; omega) | (simp only [zq1, zq2, zq3, zq4, zq5, zq6, zq7, zq8, zq9, zq10, zq11, zq12] <;> omega) | rfl))))
  conv => whnf
  refine ⟨InvS 22 (fun s : Nat => l.length - s) (fun s : Nat => s ≤ l.length) (fun s : Nat => [(0, .slc 0 5 0 l.length), (3, .slc 1 5 0 s), (4, .v (.int .i64 s))]) (fun s : Nat => [Ent.row o e pck (l.map prow), .row true 42 pck ((l.take s).map prow)]) M, ⟨(fun s : Nat => l.length - s) 0, [0, 1], tmk 22 0 ((fun s : Nat => [(0, .slc 0 5 0 l.length), (3, .slc 1 5 0 s), (4, .v (.int .i64 s))]) 0), (fun s : Nat => [Ent.row o e pck (l.map prow), .row true 42 pck ((l.take s).map prow)]) 0, ?_⟩, ?_⟩
  · repeat ((conv => whnf); (first | refine Cnd.yes ?_ | refine Cnd.no ?_ | refine And.intro rfl ?_ | refine And.intro (by omega) ?_ | (refine And.intro ?_ ?_; focus (simp only [IntKind.wrap_i64, IntKind.wrap_u64, IntKind.wrap_u32]; omega)) | (refine And.intro ?_ ?_; focus (simp only [zl1, zl2, zl3, zl4, zl5, zl6, zl7, zl8] <;> omega))))
    conv => whnf
    exact ⟨0, by omega, rfl, rfl, (tmkK_eq _ _ _ _).mpr rfl, rfl⟩
  · rintro cnt tm hp M1 ⟨i, hC_, rfl, rfl, htm, hhp_⟩
    replace hC_ : i ≤ l.length := hC_
    have hi := hC_
    replace htm : tmkK 22 0 [(0, .slc 0 5 0 l.length), (3, .slc 1 5 0 i), (4, .v (.int .i64 i))] (fun l => tm = l) := htm
    conv at htm => whnf
    subst htm
    replace hhp_ : hp = [Ent.row o e pck (l.map prow), .row true 42 pck ((l.take i).map prow)] := hhp_
    subst hhp_
    repeat ((conv => whnf); (first | refine Cnd.yes ?_ | refine Cnd.no ?_ | refine And.intro rfl ?_ | refine And.intro (by omega) ?_ | (refine And.intro ?_ ?_; focus (simp only [IntKind.wrap_i64, IntKind.wrap_u64, IntKind.wrap_u32]; omega)) | (refine And.intro ?_ ?_; focus (simp only [zl1, zl2, zl3, zl4, zl5, zl6, zl7, zl8] <;> omega)) | (refine Cnd.tt ?_ ?_; focus (first | (apply decide_eq_true; omega) | (simp only [zq1, zq2, zq3, zq4, zq5, zq6, zq7, zq8, zq9, zq10, zq11, zq12] <;> omega) | rfl)) | (refine Cnd.ff ?_ ?_; focus (first | (apply decide_eq_false; omega) | (simp only [zq1, zq2, zq3, zq4, zq5, zq6, zq7, zq8, zq9, zq10, zq11, zq12] <;> omega) | rfl))))
    conv => whnf
    refine Cnd.mk (fun hlt => ?_) fun hge => ?_
    · have hin : i < l.length := by have := of_decide_eq_true hlt; omega
      have hc := fun k => cell_map prow l default hin k
      have e0 : toI (cellAt (l.map prow) (0 + (i : Int).toNat) 0) = (l.getD i default).a := by rw [hc]; rfl
      have e1 : toI (cellAt (l.map prow) (0 + (i : Int).toNat) (0 + 1)) = (l.getD i default).b := by rw [hc]; rfl
      have e2 : toI (cellAt (l.map prow) (0 + (i : Int).toNat) (0 + 1 + 1)) = (l.getD i default).c := by rw [hc]; rfl
      have e3 : toI (cellAt (l.map prow) (0 + (i : Int).toNat) (0 + 1 + 1 + 1)) = (l.getD i default).d := by rw [hc]; rfl
      have e4 : toB (cellAt (l.map prow) (0 + (i : Int).toNat) (0 + 1 + 1 + 1 + 1)) = (l.getD i default).f := by rw [hc]; rfl
      repeat ((conv => whnf); (first | refine Cnd.yes ?_ | refine Cnd.no ?_ | refine And.intro rfl ?_ | refine And.intro (by omega) ?_ | (refine And.intro ?_ ?_; focus (simp only [IntKind.wrap_i64, IntKind.wrap_u64, IntKind.wrap_u32]; omega)) | (refine And.intro ?_ ?_; focus (simp only [zl1, zl2, zl3, zl4, zl5, zl6, zl7, zl8] <;> omega)) | (refine Cnd.tt ?_ ?_; focus (first | (apply decide_eq_true; omega) | (simp only [zq1, zq2, zq3, zq4, zq5, zq6, zq7, zq8, zq9, zq10, zq11, zq12] <;> omega) | rfl)) | (refine Cnd.ff ?_ ?_; focus (first | (apply decide_eq_false; omega) | (simp only [zq1, zq2, zq3, zq4, zq5, zq6, zq7, zq8, zq9, zq10, zq11, zq12] <;> omega) | rfl))))
      conv => whnf
      rw [e0, e1, e2, e3, e4]
      (refine ⟨(fun s : Nat => l.length - s) (i + 1), [0, 3], tmk 22 0 ((fun s : Nat => [(0, .slc 0 5 0 l.length), (3, .slc 1 5 0 s), (4, .v (.int .i64 s))]) (i + 1)), (fun s : Nat => [Ent.row o e pck (l.map prow), .row true 42 pck ((l.take s).map prow)]) (i + 1), ?_, ?_⟩; focus (first | (simp only []; omega) | omega))
      repeat ((conv => whnf); (first | refine Cnd.yes ?_ | refine Cnd.no ?_ | refine And.intro rfl ?_ | refine And.intro (by omega) ?_ | (refine And.intro ?_ ?_; focus (simp only [IntKind.wrap_i64, IntKind.wrap_u64, IntKind.wrap_u32]; omega)) | (refine And.intro ?_ ?_; focus (simp only [zl1, zl2, zl3, zl4, zl5, zl6, zl7, zl8] <;> omega))))
      conv => whnf
      refine ⟨?_, ?_⟩
      · have e5 : l.take (i + 1) = l.take i ++ [l.getD i default] := by rw [List.take_succ_eq_append_getElem hin]; simp [List.getD, hin]
        rw [e5, List.drop_zero, List.drop_zero, List.take_of_length_le (by simp; omega), List.map_append (l₁ := l.take i)]
        rfl
      · repeat ((conv => whnf); (first | refine Cnd.yes ?_ | refine Cnd.no ?_ | refine And.intro rfl ?_ | refine And.intro (by omega) ?_ | (refine And.intro ?_ ?_; focus (simp only [IntKind.wrap_i64, IntKind.wrap_u64, IntKind.wrap_u32]; omega)) | (refine And.intro ?_ ?_; focus (simp only [zl1, zl2, zl3, zl4, zl5, zl6, zl7, zl8] <;> omega))))
        conv => whnf
        exact ⟨i + 1, by omega, rfl, rfl, (tmkK_eq _ _ _ _).mpr rfl, rfl⟩
    · have hin : i = l.length := by have := of_decide_eq_false hge; omega
      subst hin
      repeat ((conv => whnf); (first | refine Cnd.yes ?_ | refine Cnd.no ?_ | refine And.intro rfl ?_ | refine And.intro (by omega) ?_ | (refine And.intro ?_ ?_; focus (simp only [IntKind.wrap_i64, IntKind.wrap_u64, IntKind.wrap_u32]; omega)) | (refine And.intro ?_ ?_; focus (simp only [zl1, zl2, zl3, zl4, zl5, zl6, zl7, zl8] <;> omega)) | (refine Cnd.tt ?_ ?_; focus (first | (apply decide_eq_true; omega) | (simp only [zq1, zq2, zq3, zq4, zq5, zq6, zq7, zq8, zq9, zq10, zq11, zq12] <;> omega) | rfl)) | (refine Cnd.ff ?_ ?_; focus (first | (apply decide_eq_false; omega) | (simp only [zq1, zq2, zq3, zq4, zq5, zq6, zq7, zq8, zq9, zq10, zq11, zq12] <;> omega) | rfl))))
      conv => whnf
      rw [List.take_of_length_le (Nat.le_refl _)]
      refine ⟨[0, 1], .slc 1 5 0 l.length, [.row o e pck (l.map prow), .row true 42 pck (l.map prow)], ?_⟩
      repeat ((conv => whnf); (first | refine Cnd.yes ?_ | refine Cnd.no ?_ | refine And.intro rfl ?_ | refine And.intro (by omega) ?_ | (refine And.intro ?_ ?_; focus (simp only [IntKind.wrap_i64, IntKind.wrap_u64, IntKind.wrap_u32]; omega)) | (refine And.intro ?_ ?_; focus (simp only [zl1, zl2, zl3, zl4, zl5, zl6, zl7, zl8] <;> omega))))
      conv => whnf
      exact hK
def ptesS : Vc.Spec := fun args hp _ K => ∃ (o : Bool) (e : TypeId) (l : List Pte), args = [.slc 0 5 0 l.length] ∧ hp = [.row o e pck (l.map prow)] ∧ l.length ≤ 1000 ∧ K (.slc 1 5 0 l.length) [.row o e pck (l.map prow), .row true 42 pck (l.map prow)]
theorem ptes_ok : SOK Tryd.prog 26 ptesS := by
  refine TOK.weaken (TOK.out (runF_eq G0_ok mixed at26.1 at26.2 pf26_eq)) fun args hp M K h => ?_
  obtain ⟨o, e, l, rfl, rfl, h1, h2⟩ := h
  exact ptes_run M K o e l h1 h2
end Go.Proofs.YtdmcdlgcmeledaaDoor
