/-
  The TLB: Flush, walked; its contract.
-/
import Derived.Test.YtdmcdlgcmeledaaDoorCc
namespace Go.Proofs.YtdmcdlgcmeledaaDoor
open Go Go.Vc
set_option maxRecDepth 100000
set_option linter.unusedSimpArgs false
set_option linter.unusedVariables false
def urow (x : Int) : List Value := [.int .u32 x]
theorem toI_u {l : List Int} {i : Nat} (hi : i < l.length) : toI (cellAt (l.map urow) (0 + (i : Int).toNat) 0) = l.getD i 0 := by
  rw [Nat.zero_add, Int.toNat_natCast]
  simp [cellAt, List.getD, hi, urow, toI]
theorem has_run (M : HL) (K : SV → List Ent → HL → Prop) (w : List Int) (o : Bool) (e : TypeId) (p : Int) (hl : w.length ≤ 1000000) (hK : K (.v (.bool (decide (p ∈ w)))) [.row o e [.int .u32] (w.map urow)] M) :
    runF G1 pf29 [.slc 0 1 0 w.length, .v (.int .u32 p)] [.row o e [.int .u32] (w.map urow)] M fun v hp2 M2 => ∃ m v' hp', Wk (llen [Ent.row o e [.int .u32] (w.map urow)]) m [v] hp2 [v'] hp' (K v' hp' M2) := by
  repeat ((repeat ((conv => whnf); (first | refine Cnd.yes ?_ | refine Cnd.no ?_ | refine And.intro rfl ?_ | refine And.intro (by omega) ?_ | (refine And.intro ?_ ?_; focus (simp only [IntKind.wrap_i64, IntKind.wrap_u64, IntKind.wrap_u32]; omega)) | (refine And.intro ?_ ?_; focus (simp only [zl1, zl2, zl3, zl4, zl5, zl6, zl7, zl8] <;> omega))))); (conv => whnf); (first | (refine Cnd.tt ?_ ?_; focus (first | (apply decide_eq_true; omega) | (simp only [zq1, zq2, zq3, zq4, zq5, zq6, zq7, zq8, zq9, zq10, zq11, zq12]; omega) | rfl)) | (refine Cnd.ff ?_ ?_; focus (first | (apply decide_eq_false; omega) | (simp only [zq1, zq2, zq3, zq4, zq5, zq6, zq7, zq8, zq9, zq10, zq11, zq12]; omega) | rfl))))
  repeat ((conv => whnf); (first | refine Cnd.yes ?_ | refine Cnd.no ?_ | refine And.intro rfl ?_ | refine And.intro (by omega) ?_ | (refine And.intro ?_ ?_; focus (simp only [IntKind.wrap_i64, IntKind.wrap_u64, IntKind.wrap_u32]; omega)) | (refine And.intro ?_ ?_; focus (simp only [zl1, zl2, zl3, zl4, zl5, zl6, zl7, zl8] <;> omega))))
  conv => whnf
  refine ⟨InvS 19 (fun s : Nat => w.length - s) (fun s : Nat => s ≤ w.length ∧ ∀ j, j < s → w.getD j 0 ≠ p) (fun s : Nat => [(0, .slc 0 1 0 w.length), (1, .v (.int .u32 p)), (6, .slc 0 1 0 w.length), (7, .v (.int .i64 w.length)), (8, .v (.int .i64 s))]) (fun s : Nat => [Ent.row o e [.int .u32] (w.map urow)]) M, ⟨(fun s : Nat => w.length - s) 0, [0], tmk 19 0 ((fun s : Nat => [(0, .slc 0 1 0 w.length), (1, .v (.int .u32 p)), (6, .slc 0 1 0 w.length), (7, .v (.int .i64 w.length)), (8, .v (.int .i64 s))]) 0), (fun s : Nat => [Ent.row o e [.int .u32] (w.map urow)]) 0, ?_⟩, ?_⟩
  · repeat ((conv => whnf); (first | refine Cnd.yes ?_ | refine Cnd.no ?_ | refine And.intro rfl ?_ | refine And.intro (by omega) ?_ | (refine And.intro ?_ ?_; focus (simp only [IntKind.wrap_i64, IntKind.wrap_u64, IntKind.wrap_u32]; omega)) | (refine And.intro ?_ ?_; focus (simp only [zl1, zl2, zl3, zl4, zl5, zl6, zl7, zl8] <;> omega))))
    conv => whnf
    exact ⟨0, ⟨by omega, fun j hj => by omega⟩, rfl, rfl, (tmkK_eq _ _ _ _).mpr rfl, rfl⟩
  · rintro cnt tm hp M1 ⟨i, hC_, rfl, rfl, htm, hhp_⟩
    replace hC_ : i ≤ w.length ∧ ∀ j, j < i → w.getD j 0 ≠ p := hC_
    obtain ⟨hi, hall⟩ := hC_
    replace htm : tmkK 19 0 [(0, .slc 0 1 0 w.length), (1, .v (.int .u32 p)), (6, .slc 0 1 0 w.length), (7, .v (.int .i64 w.length)), (8, .v (.int .i64 i))] (fun l => tm = l) := htm
    conv at htm => whnf
    subst htm
    replace hhp_ : hp = [Ent.row o e [.int .u32] (w.map urow)] := hhp_
    subst hhp_
    repeat ((conv => whnf); (first | refine Cnd.yes ?_ | refine Cnd.no ?_ | refine And.intro rfl ?_ | refine And.intro (by omega) ?_ | (refine And.intro ?_ ?_; focus (simp only [IntKind.wrap_i64, IntKind.wrap_u64, IntKind.wrap_u32]; omega)) | (refine And.intro ?_ ?_; focus (simp only [zl1, zl2, zl3, zl4, zl5, zl6, zl7, zl8] <;> omega))))
    conv => whnf
    refine Cnd.mk (fun hlt => ?_) fun hge => ?_
    · have hin : i < w.length := by have := of_decide_eq_true hlt; omega
      have e0 := toI_u hin
      repeat ((repeat ((conv => whnf); (first | refine Cnd.yes ?_ | refine Cnd.no ?_ | refine And.intro rfl ?_ | refine And.intro (by omega) ?_ | (refine And.intro ?_ ?_; focus (simp only [IntKind.wrap_i64, IntKind.wrap_u64, IntKind.wrap_u32]; omega)) | (refine And.intro ?_ ?_; focus (simp only [zl1, zl2, zl3, zl4, zl5, zl6, zl7, zl8] <;> omega))))); (conv => whnf); (first | (refine Cnd.tt ?_ ?_; focus (first | (apply decide_eq_true; omega) | (simp only [zq1, zq2, zq3, zq4, zq5, zq6, zq7, zq8, zq9, zq10, zq11, zq12]; omega) | rfl)) | (refine Cnd.ff ?_ ?_; focus (first | (apply decide_eq_false; omega) | (simp only [zq1, zq2, zq3, zq4, zq5, zq6, zq7, zq8, zq9, zq10, zq11, zq12]; omega) | rfl))))
      repeat ((conv => whnf); (first | refine Cnd.yes ?_ | refine Cnd.no ?_ | refine And.intro rfl ?_ | refine And.intro (by omega) ?_ | (refine And.intro ?_ ?_; focus (simp only [IntKind.wrap_i64, IntKind.wrap_u64, IntKind.wrap_u32]; omega)) | (refine And.intro ?_ ?_; focus (simp only [zl1, zl2, zl3, zl4, zl5, zl6, zl7, zl8] <;> omega))))
      conv => whnf
      rw [e0]
      by_cases hp : w.getD i 0 = p
      · refine Cnd.tt (by simpa using hp.symm) ?_
        repeat ((repeat ((conv => whnf); (first | refine Cnd.yes ?_ | refine Cnd.no ?_ | refine And.intro rfl ?_ | refine And.intro (by omega) ?_ | (refine And.intro ?_ ?_; focus (simp only [IntKind.wrap_i64, IntKind.wrap_u64, IntKind.wrap_u32]; omega)) | (refine And.intro ?_ ?_; focus (simp only [zl1, zl2, zl3, zl4, zl5, zl6, zl7, zl8] <;> omega))))); (conv => whnf); (first | (refine Cnd.tt ?_ ?_; focus (first | (apply decide_eq_true; omega) | (simp only [zq1, zq2, zq3, zq4, zq5, zq6, zq7, zq8, zq9, zq10, zq11, zq12]; omega) | rfl)) | (refine Cnd.ff ?_ ?_; focus (first | (apply decide_eq_false; omega) | (simp only [zq1, zq2, zq3, zq4, zq5, zq6, zq7, zq8, zq9, zq10, zq11, zq12]; omega) | rfl))))
        repeat ((conv => whnf); (first | refine Cnd.yes ?_ | refine Cnd.no ?_ | refine And.intro rfl ?_ | refine And.intro (by omega) ?_ | (refine And.intro ?_ ?_; focus (simp only [IntKind.wrap_i64, IntKind.wrap_u64, IntKind.wrap_u32]; omega)) | (refine And.intro ?_ ?_; focus (simp only [zl1, zl2, zl3, zl4, zl5, zl6, zl7, zl8] <;> omega))))
        conv => whnf
        refine ⟨[0], .v (.bool true), [.row o e [.int .u32] (w.map urow)], ?_⟩
        repeat ((conv => whnf); (first | refine Cnd.yes ?_ | refine Cnd.no ?_ | refine And.intro rfl ?_ | refine And.intro (by omega) ?_ | (refine And.intro ?_ ?_; focus (simp only [IntKind.wrap_i64, IntKind.wrap_u64, IntKind.wrap_u32]; omega)) | (refine And.intro ?_ ?_; focus (simp only [zl1, zl2, zl3, zl4, zl5, zl6, zl7, zl8] <;> omega))))
        conv => whnf
        rw [decide_eq_true (show p ∈ w by rw [← hp]; simp [List.getD, hin])] at hK
        exact hK
      · refine Cnd.ff (by simpa using fun h => hp h.symm) ?_
        repeat ((repeat ((conv => whnf); (first | refine Cnd.yes ?_ | refine Cnd.no ?_ | refine And.intro rfl ?_ | refine And.intro (by omega) ?_ | (refine And.intro ?_ ?_; focus (simp only [IntKind.wrap_i64, IntKind.wrap_u64, IntKind.wrap_u32]; omega)) | (refine And.intro ?_ ?_; focus (simp only [zl1, zl2, zl3, zl4, zl5, zl6, zl7, zl8] <;> omega))))); (conv => whnf); (first | (refine Cnd.tt ?_ ?_; focus (first | (apply decide_eq_true; omega) | (simp only [zq1, zq2, zq3, zq4, zq5, zq6, zq7, zq8, zq9, zq10, zq11, zq12]; omega) | rfl)) | (refine Cnd.ff ?_ ?_; focus (first | (apply decide_eq_false; omega) | (simp only [zq1, zq2, zq3, zq4, zq5, zq6, zq7, zq8, zq9, zq10, zq11, zq12]; omega) | rfl))))
        repeat ((conv => whnf); (first | refine Cnd.yes ?_ | refine Cnd.no ?_ | refine And.intro rfl ?_ | refine And.intro (by omega) ?_ | (refine And.intro ?_ ?_; focus (simp only [IntKind.wrap_i64, IntKind.wrap_u64, IntKind.wrap_u32]; omega)) | (refine And.intro ?_ ?_; focus (simp only [zl1, zl2, zl3, zl4, zl5, zl6, zl7, zl8] <;> omega))))
        conv => whnf
        (refine ⟨(fun s : Nat => w.length - s) (i + 1), [0], tmk 19 0 ((fun s : Nat => [(0, .slc 0 1 0 w.length), (1, .v (.int .u32 p)), (6, .slc 0 1 0 w.length), (7, .v (.int .i64 w.length)), (8, .v (.int .i64 s))]) (i + 1)), (fun s : Nat => [Ent.row o e [.int .u32] (w.map urow)]) (i + 1), ?_, ?_⟩; focus (first | (simp only []; omega) | omega))
        repeat ((conv => whnf); (first | refine Cnd.yes ?_ | refine Cnd.no ?_ | refine And.intro rfl ?_ | refine And.intro (by omega) ?_ | (refine And.intro ?_ ?_; focus (simp only [IntKind.wrap_i64, IntKind.wrap_u64, IntKind.wrap_u32]; omega)) | (refine And.intro ?_ ?_; focus (simp only [zl1, zl2, zl3, zl4, zl5, zl6, zl7, zl8] <;> omega))))
        conv => whnf
        exact ⟨i + 1, ⟨by omega, fun j hj => by rcases Nat.lt_succ_iff_lt_or_eq.1 hj with h | h; exact hall j h; rw [h]; exact hp⟩, rfl, rfl, (tmkK_eq _ _ _ _).mpr rfl, rfl⟩
    · have hin : i = w.length := by have := of_decide_eq_false hge; omega
      repeat ((repeat ((conv => whnf); (first | refine Cnd.yes ?_ | refine Cnd.no ?_ | refine And.intro rfl ?_ | refine And.intro (by omega) ?_ | (refine And.intro ?_ ?_; focus (simp only [IntKind.wrap_i64, IntKind.wrap_u64, IntKind.wrap_u32]; omega)) | (refine And.intro ?_ ?_; focus (simp only [zl1, zl2, zl3, zl4, zl5, zl6, zl7, zl8] <;> omega))))); (conv => whnf); (first | (refine Cnd.tt ?_ ?_; focus (first | (apply decide_eq_true; omega) | (simp only [zq1, zq2, zq3, zq4, zq5, zq6, zq7, zq8, zq9, zq10, zq11, zq12]; omega) | rfl)) | (refine Cnd.ff ?_ ?_; focus (first | (apply decide_eq_false; omega) | (simp only [zq1, zq2, zq3, zq4, zq5, zq6, zq7, zq8, zq9, zq10, zq11, zq12]; omega) | rfl))))
      repeat ((conv => whnf); (first | refine Cnd.yes ?_ | refine Cnd.no ?_ | refine And.intro rfl ?_ | refine And.intro (by omega) ?_ | (refine And.intro ?_ ?_; focus (simp only [IntKind.wrap_i64, IntKind.wrap_u64, IntKind.wrap_u32]; omega)) | (refine And.intro ?_ ?_; focus (simp only [zl1, zl2, zl3, zl4, zl5, zl6, zl7, zl8] <;> omega))))
      conv => whnf
      refine ⟨[0], .v (.bool false), [.row o e [.int .u32] (w.map urow)], ?_⟩
      repeat ((conv => whnf); (first | refine Cnd.yes ?_ | refine Cnd.no ?_ | refine And.intro rfl ?_ | refine And.intro (by omega) ?_ | (refine And.intro ?_ ?_; focus (simp only [IntKind.wrap_i64, IntKind.wrap_u64, IntKind.wrap_u32]; omega)) | (refine And.intro ?_ ?_; focus (simp only [zl1, zl2, zl3, zl4, zl5, zl6, zl7, zl8] <;> omega))))
      conv => whnf
      rw [decide_eq_false (show ¬ p ∈ w from fun hm => by
        obtain ⟨j, hj, h⟩ := List.getElem_of_mem hm
        exact hall j (by omega) (by simpa [List.getD, hj] using h))] at hK
      exact hK
def hasS : Vc.Spec := fun args hp _ K => ∃ (w : List Int) (o : Bool) (e : TypeId) (p : Int), args = [.slc 0 1 0 w.length, .v (.int .u32 p)] ∧ hp = [.row o e [.int .u32] (w.map urow)] ∧ w.length ≤ 1000000 ∧ K (.v (.bool (decide (p ∈ w)))) [.row o e [.int .u32] (w.map urow)]
theorem has_ok : SOK Tryd.prog 29 hasS := by
  refine TOK.weaken (TOK.out (runF_eq G1_ok mixed at29.1 at29.2 pf29_eq)) fun args hp M K h => ?_
  obtain ⟨w, o, e, p, rfl, rfl, h1, h2⟩ := h
  exact has_run M K w o e p h1 h2
noncomputable def specs2 : Nat → Option Vc.Trans := tget [(29, frameT hasS)]
noncomputable def G2 : Nat → Option Vc.Trans := tabG specs2 (tget tab) 5
theorem G2_ok : GOK Tryd.prog G2 := tabG_ok (GOK.cons (frame_ok has_ok) .nil) tab_ok 5
/-- Whether a page goes. -/
def gone (w : List Int) (p : Int) : Bool := decide (w = [] ∨ p ∈ w)
def gHp (w : List Int) (o : Bool) (e : TypeId) : List Ent := [.cells 36 [.slc 1 1 0 w.length], .row o e [.int .u32] (w.map urow)]
theorem gone_run (M : HL) (K : SV → List Ent → HL → Prop) (w : List Int) (o : Bool) (e : TypeId) (p : Int) (y : Value) (hl : w.length ≤ 1000000) (hK : K (.v (.bool (gone w p))) (gHp w o e) M) :
    runF G2 pf28 [.agg [.v (.int .u32 p), .rsl y], .ptr 0 0 0 0] (gHp w o e) M fun v hp2 M2 => ∃ m v' hp', Wk (llen (gHp w o e)) m [v] hp2 [v'] hp' (K v' hp' M2) := by
  unfold gone at hK
  cases w with
  | nil =>
    repeat ((repeat ((conv => whnf); (first | refine Cnd.yes ?_ | refine Cnd.no ?_ | refine And.intro rfl ?_ | refine And.intro (by omega) ?_ | (refine And.intro ?_ ?_; focus (simp only [IntKind.wrap_i64, IntKind.wrap_u64, IntKind.wrap_u32]; omega)) | (refine And.intro ?_ ?_; focus (simp only [zl1, zl2, zl3, zl4, zl5, zl6, zl7, zl8] <;> omega))))); (conv => whnf); (first | (refine Cnd.tt ?_ ?_; focus (first | (apply decide_eq_true; omega) | (simp only [zq1, zq2, zq3, zq4, zq5, zq6, zq7, zq8, zq9, zq10, zq11, zq12]; omega) | rfl)) | (refine Cnd.ff ?_ ?_; focus (first | (apply decide_eq_false; omega) | (simp only [zq1, zq2, zq3, zq4, zq5, zq6, zq7, zq8, zq9, zq10, zq11, zq12]; omega) | rfl))))
    repeat ((conv => whnf); (first | refine Cnd.yes ?_ | refine Cnd.no ?_ | refine And.intro rfl ?_ | refine And.intro (by omega) ?_ | (refine And.intro ?_ ?_; focus (simp only [IntKind.wrap_i64, IntKind.wrap_u64, IntKind.wrap_u32]; omega)) | (refine And.intro ?_ ?_; focus (simp only [zl1, zl2, zl3, zl4, zl5, zl6, zl7, zl8] <;> omega))))
    conv => whnf
    refine ⟨[0, 1], .v (.bool true), gHp [] o e, ?_⟩
    repeat ((conv => whnf); (first | refine Cnd.yes ?_ | refine Cnd.no ?_ | refine And.intro rfl ?_ | refine And.intro (by omega) ?_ | (refine And.intro ?_ ?_; focus (simp only [IntKind.wrap_i64, IntKind.wrap_u64, IntKind.wrap_u32]; omega)) | (refine And.intro ?_ ?_; focus (simp only [zl1, zl2, zl3, zl4, zl5, zl6, zl7, zl8] <;> omega))))
    conv => whnf
    exact hK
  | cons x r =>
    rw [show decide ((x :: r = []) ∨ p ∈ x :: r) = decide (p ∈ x :: r) from by simp] at hK
    have hl' : (x :: r).length = r.length + 1 := rfl
    repeat ((repeat ((conv => whnf); (first | refine Cnd.yes ?_ | refine Cnd.no ?_ | refine And.intro rfl ?_ | refine And.intro (by omega) ?_ | (refine And.intro ?_ ?_; focus (simp only [IntKind.wrap_i64, IntKind.wrap_u64, IntKind.wrap_u32]; omega)) | (refine And.intro ?_ ?_; focus (simp only [zl1, zl2, zl3, zl4, zl5, zl6, zl7, zl8] <;> omega))))); (conv => whnf); (first | (refine Cnd.tt ?_ ?_; focus (first | (apply decide_eq_true; omega) | (simp only [zq1, zq2, zq3, zq4, zq5, zq6, zq7, zq8, zq9, zq10, zq11, zq12]; omega) | rfl)) | (refine Cnd.ff ?_ ?_; focus (first | (apply decide_eq_false; omega) | (simp only [zq1, zq2, zq3, zq4, zq5, zq6, zq7, zq8, zq9, zq10, zq11, zq12]; omega) | rfl))))
    repeat ((conv => whnf); (first | refine Cnd.yes ?_ | refine Cnd.no ?_ | refine And.intro rfl ?_ | refine And.intro (by omega) ?_ | (refine And.intro ?_ ?_; focus (simp only [IntKind.wrap_i64, IntKind.wrap_u64, IntKind.wrap_u32]; omega)) | (refine And.intro ?_ ?_; focus (simp only [zl1, zl2, zl3, zl4, zl5, zl6, zl7, zl8] <;> omega))))
    conv => whnf
    refine ⟨x :: r, o, e, p, rfl, rfl, hl, ?_⟩
    repeat ((repeat ((conv => whnf); (first | refine Cnd.yes ?_ | refine Cnd.no ?_ | refine And.intro rfl ?_ | refine And.intro (by omega) ?_ | (refine And.intro ?_ ?_; focus (simp only [IntKind.wrap_i64, IntKind.wrap_u64, IntKind.wrap_u32]; omega)) | (refine And.intro ?_ ?_; focus (simp only [zl1, zl2, zl3, zl4, zl5, zl6, zl7, zl8] <;> omega))))); (conv => whnf); (first | (refine Cnd.tt ?_ ?_; focus (first | (apply decide_eq_true; omega) | (simp only [zq1, zq2, zq3, zq4, zq5, zq6, zq7, zq8, zq9, zq10, zq11, zq12]; omega) | rfl)) | (refine Cnd.ff ?_ ?_; focus (first | (apply decide_eq_false; omega) | (simp only [zq1, zq2, zq3, zq4, zq5, zq6, zq7, zq8, zq9, zq10, zq11, zq12]; omega) | rfl))))
    repeat ((conv => whnf); (first | refine Cnd.yes ?_ | refine Cnd.no ?_ | refine And.intro rfl ?_ | refine And.intro (by omega) ?_ | (refine And.intro ?_ ?_; focus (simp only [IntKind.wrap_i64, IntKind.wrap_u64, IntKind.wrap_u32]; omega)) | (refine And.intro ?_ ?_; focus (simp only [zl1, zl2, zl3, zl4, zl5, zl6, zl7, zl8] <;> omega))))
    conv => whnf
    refine ⟨[0, 1], .v (.bool (decide (p ∈ x :: r))), gHp (x :: r) o e, ?_⟩
    repeat ((conv => whnf); (first | refine Cnd.yes ?_ | refine Cnd.no ?_ | refine And.intro rfl ?_ | refine And.intro (by omega) ?_ | (refine And.intro ?_ ?_; focus (simp only [IntKind.wrap_i64, IntKind.wrap_u64, IntKind.wrap_u32]; omega)) | (refine And.intro ?_ ?_; focus (simp only [zl1, zl2, zl3, zl4, zl5, zl6, zl7, zl8] <;> omega))))
    conv => whnf
    exact hK
def goneS : Vc.Spec := fun args hp _ K => ∃ (w : List Int) (o : Bool) (e : TypeId) (p : Int) (y : Value), args = [.agg [.v (.int .u32 p), .rsl y], .ptr 0 0 0 0] ∧ hp = gHp w o e ∧ w.length ≤ 1000000 ∧ K (.v (.bool (gone w p))) (gHp w o e)
theorem gone_ok : SOK Tryd.prog 28 goneS := by
  refine TOK.weaken (TOK.out (runF_eq G2_ok mixed at28.1 at28.2 pf28_eq)) fun args hp M K h => ?_
  obtain ⟨w, o, e, p, y, rfl, rfl, h1, h2⟩ := h
  exact gone_run M K w o e p y h1 h2
noncomputable def specs3 : Nat → Option Vc.Trans := tget [(28, frameT goneS)]
noncomputable def G3 : Nat → Option Vc.Trans := tabG specs3 (tget tab) 5
theorem G3_ok : GOK Tryd.prog G3 := tabG_ok (GOK.cons (frame_ok gone_ok) .nil) tab_ok 5
def keep (w : List Int) (x : One) : Bool := !gone w x.p
theorem orow_len (x : One) : (orow x).length = 2 := rfl
/-- DeleteFunc's states: so many are kept, so many have been looked at; the row. -/
def DI (w : List Int) (l : List One) (J : List (List Value)) (i j : Nat) (R : List (List Value)) : Prop :=
  i < j ∧ j ≤ l.length ∧ R.length = l.length + J.length ∧ (∀ r ∈ R, r.length = 2) ∧ R.take i = ((l.take j).filter (keep w)).map orow ∧ R.drop j = (l.map orow ++ J).drop j
theorem take_getD {l : List One} {i : Nat} (hi : i < l.length) : l.take (i + 1) = l.take i ++ [l.getD i default] := by
  rw [List.take_succ_eq_append_getElem hi]
  simp [List.getD, hi]
theorem all_kept (w : List Int) (l : List One) (i : Nat) (hi : i ≤ l.length) (h : ∀ j, j < i → gone w (l.getD j default).p = false) : (l.take i).filter (keep w) = l.take i := by
  rw [List.filter_eq_self]
  intro x hx
  obtain ⟨j, hj, rfl⟩ := List.getElem_of_mem hx
  have hj' : j < i := by simp at hj; omega
  have := h j hj'
  rw [List.getD, List.getElem?_eq_getElem (by omega)] at this
  simp only [List.getElem_take, keep]
  rw [show gone w l[j].p = false from this]
  rfl
theorem DI.start {w : List Int} {l : List One} {J : List (List Value)} (hJ : ∀ r ∈ J, r.length = 2) {i : Nat} (hi : i < l.length) (h : ∀ j, j < i → gone w (l.getD j default).p = false) (hg : gone w (l.getD i default).p = true) : DI w l J i (i + 1) (l.map orow ++ J) := by
  refine ⟨by omega, by omega, by simp, fun r hr => ?_, ?_, rfl⟩
  · rcases List.mem_append.1 hr with hr | hr
    · obtain ⟨x, _, rfl⟩ := List.mem_map.1 hr
      rfl
    · exact hJ r hr
  · rw [take_getD hi, List.filter_append, all_kept w l i (by omega) h, List.take_append_of_le_length (by simp; omega), ← List.map_take]
    rw [show [l.getD i default].filter (keep w) = [] from by simp only [List.filter_cons, keep, hg]; rfl]
    simp
theorem DI.cell {w : List Int} {l : List One} {J R : List (List Value)} {i j : Nat} (h : DI w l J i j R) (hj : j < l.length) (k : Nat) : cellAt R (0 + (j : Int).toNat) k = (orow (l.getD j default)).getD k undef := by
  obtain ⟨_, _, hl, _, _, hd⟩ := h
  rw [← cell_mapJ orow l J default hj k, Nat.zero_add, Int.toNat_natCast]
  have e : R[j]? = (l.map orow ++ J)[j]? := by
    have := congrArg (fun z => z[0]?) hd
    simpa only [List.getElem?_drop, Nat.add_zero] using this
  simp [cellAt, List.getD, e]
theorem DI.skip {w : List Int} {l : List One} {J R : List (List Value)} {i j : Nat} (h : DI w l J i j R) (hj : j < l.length) (hg : gone w (l.getD j default).p = true) : DI w l J i (j + 1) R := by
  obtain ⟨h1, h2, hl, h4, ht, hd⟩ := h
  refine ⟨by omega, by omega, hl, h4, ?_, ?_⟩
  · rw [ht, take_getD hj, List.filter_append, show [l.getD j default].filter (keep w) = [] from by simp only [List.filter_cons, keep, hg]; rfl, List.append_nil]
  · have := congrArg (List.drop 1) hd
    simpa only [List.drop_drop] using this
theorem DI.put {w : List Int} {l : List One} {J R : List (List Value)} {i j : Nat} (h : DI w l J i j R) (hj : j < l.length) (hg : gone w (l.getD j default).p = false) :
    DI w l J (i + 1) (j + 1) (R.set (0 + (i : Int).toNat) (over (R.getD (0 + (i : Int).toNat) []) 0 [.int .u32 (l.getD j default).p, (l.getD j default).y])) := by
  obtain ⟨h1, h2, hl, h4, ht, hd⟩ := h
  have hi : i < R.length := by omega
  have hov : over (R.getD (0 + (i : Int).toNat) []) 0 [.int .u32 (l.getD j default).p, (l.getD j default).y] = orow (l.getD j default) := by
    rw [Nat.zero_add, Int.toNat_natCast]
    have h2 : (R.getD i []).length = 2 := h4 _ (by simp [List.getD, hi])
    generalize R.getD i [] = r at h2 ⊢
    unfold over
    rw [List.drop_of_length_le (by simp [h2])]
    simp [orow]
  rw [hov, Nat.zero_add, Int.toNat_natCast]
  refine ⟨by omega, by omega, by simpa using hl, fun r hr => ?_, ?_, ?_⟩
  · rcases List.mem_or_eq_of_mem_set hr with hr | rfl
    · exact h4 r hr
    · rfl
  · rw [List.take_succ_eq_append_getElem (by simpa using hi), List.getElem_set_self, List.take_set_of_le (Nat.le_refl _), ht, take_getD hj, List.filter_append,
      show [l.getD j default].filter (keep w) = [l.getD j default] from by simp only [List.filter_cons, keep, hg]; rfl]
    simp
  · rw [List.drop_set_of_lt (by omega)]
    have := congrArg (List.drop 1) hd
    simpa only [List.drop_drop] using this
def zrow : List Value := [.int .u32 0, .slice none 0 0]
theorem DI.fin {w : List Int} {l : List One} {J R : List (List Value)} {i : Nat} (h : DI w l J i l.length R) : (l.filter (keep w)).length = i ∧ ∃ J', R.take (0 + i) ++ List.replicate (l.length - i) zrow ++ R.drop (0 + i + (l.length - i)) = (l.filter (keep w)).map orow ++ J' ∧ (∀ r ∈ J', r.length = 2) ∧ i + J'.length = l.length + J.length := by
  obtain ⟨h1, h2, hl, h4, ht, hd⟩ := h
  rw [List.take_of_length_le (Nat.le_refl _)] at ht
  have e := congrArg List.length ht
  rw [List.length_take, List.length_map, Nat.min_eq_left (by omega)] at e
  refine ⟨e.symm, List.replicate (l.length - i) zrow ++ R.drop (0 + i + (l.length - i)), by rw [Nat.zero_add, ht, List.append_assoc], fun r hr => ?_, ?_⟩
  · rcases List.mem_append.1 hr with hr | hr
    · rw [List.eq_of_mem_replicate hr]; rfl
    · exact h4 r (List.mem_of_mem_drop hr)
  · simp; omega
set_option maxHeartbeats 1000000 in
theorem flush_run (M : HL) (K : SV → List Ent → HL → Prop) (n : Int) (l : List One) (J : List (List Value)) (w : List Int) (o : Bool) (e : TypeId) (hl : l.length ≤ 100) (hJ : ∀ r ∈ J, r.length = 2) (hw : w.length ≤ 1000000)
    (hK : ∀ J', (∀ r ∈ J', r.length = 2) → (l.filter (keep w)).length + J'.length = l.length + J.length → K (.tup []) (tHp true n (l.filter (keep w)) J' ++ [.row o e [.int .u32] (w.map urow)]) M) :
    runF G3 pf10 [.ptr 0 0 0 0, .slc 2 1 0 w.length] (tHp true n l J ++ [.row o e [.int .u32] (w.map urow)]) M fun v hp2 M2 => ∃ m v' hp', Wk (llen (tHp true n l J ++ [.row o e [.int .u32] (w.map urow)])) m [v] hp2 [v'] hp' (K v' hp' M2) := by
  repeat ((repeat ((conv => whnf); (first | refine Cnd.yes ?_ | refine Cnd.no ?_ | refine And.intro rfl ?_ | refine And.intro (by omega) ?_ | (refine And.intro ?_ ?_; focus (simp only [IntKind.wrap_i64, IntKind.wrap_u64, IntKind.wrap_u32]; omega)) | (refine And.intro ?_ ?_; focus (simp only [zl1, zl2, zl3, zl4, zl5, zl6, zl7, zl8] <;> omega))))); (conv => whnf); (first | (refine Cnd.tt ?_ ?_; focus (first | (apply decide_eq_true; omega) | (simp only [zq1, zq2, zq3, zq4, zq5, zq6, zq7, zq8, zq9, zq10, zq11, zq12]; omega) | rfl)) | (refine Cnd.ff ?_ ?_; focus (first | (apply decide_eq_false; omega) | (simp only [zq1, zq2, zq3, zq4, zq5, zq6, zq7, zq8, zq9, zq10, zq11, zq12]; omega) | rfl))))
  repeat ((conv => whnf); (first | refine Cnd.yes ?_ | refine Cnd.no ?_ | refine And.intro rfl ?_ | refine And.intro (by omega) ?_ | (refine And.intro ?_ ?_; focus (simp only [IntKind.wrap_i64, IntKind.wrap_u64, IntKind.wrap_u32]; omega)) | (refine And.intro ?_ ?_; focus (simp only [zl1, zl2, zl3, zl4, zl5, zl6, zl7, zl8] <;> omega))))
  conv => whnf
  refine ⟨InvS 19 (fun s : Nat => l.length - s) (fun s : Nat => s ≤ l.length ∧ ∀ j, j < s → gone w (l.getD j default).p = false) (fun s : Nat => [(0, .slc 1 2 0 l.length), (1, .fn (.func 28) [] [.ptr 3 0 0 0]), (6, .slc 1 2 0 l.length), (7, .v (.int .i64 l.length)), (8, .v (.int .i64 s))]) (fun s : Nat => tHp true n l J ++ [.row o e [.int .u32] (w.map urow), .cells 36 [.slc 2 1 0 w.length]]) M, ⟨(fun s : Nat => l.length - s) 0, [0, 1, 2, 3], tmk 19 0 ((fun s : Nat => [(0, .slc 1 2 0 l.length), (1, .fn (.func 28) [] [.ptr 3 0 0 0]), (6, .slc 1 2 0 l.length), (7, .v (.int .i64 l.length)), (8, .v (.int .i64 s))]) 0), (fun s : Nat => tHp true n l J ++ [.row o e [.int .u32] (w.map urow), .cells 36 [.slc 2 1 0 w.length]]) 0, ?_⟩, ?_⟩
  · repeat ((conv => whnf); (first | refine Cnd.yes ?_ | refine Cnd.no ?_ | refine And.intro rfl ?_ | refine And.intro (by omega) ?_ | (refine And.intro ?_ ?_; focus (simp only [IntKind.wrap_i64, IntKind.wrap_u64, IntKind.wrap_u32]; omega)) | (refine And.intro ?_ ?_; focus (simp only [zl1, zl2, zl3, zl4, zl5, zl6, zl7, zl8] <;> omega))))
    conv => whnf
    exact ⟨0, ⟨by omega, fun j hj => by omega⟩, rfl, rfl, (tmkK_eq _ _ _ _).mpr rfl, rfl⟩
  · rintro cnt tm hp M1 ⟨i, hC_, rfl, rfl, htm, hhp_⟩
    replace hC_ : i ≤ l.length ∧ ∀ j, j < i → gone w (l.getD j default).p = false := hC_
    obtain ⟨hi, hall⟩ := hC_
    replace htm : tmkK 19 0 [(0, .slc 1 2 0 l.length), (1, .fn (.func 28) [] [.ptr 3 0 0 0]), (6, .slc 1 2 0 l.length), (7, .v (.int .i64 l.length)), (8, .v (.int .i64 i))] (fun l => tm = l) := htm
    conv at htm => whnf
    subst htm
    replace hhp_ : hp = tHp true n l J ++ [.row o e [.int .u32] (w.map urow), .cells 36 [.slc 2 1 0 w.length]] := hhp_
    subst hhp_
    repeat ((conv => whnf); (first | refine Cnd.yes ?_ | refine Cnd.no ?_ | refine And.intro rfl ?_ | refine And.intro (by omega) ?_ | (refine And.intro ?_ ?_; focus (simp only [IntKind.wrap_i64, IntKind.wrap_u64, IntKind.wrap_u32]; omega)) | (refine And.intro ?_ ?_; focus (simp only [zl1, zl2, zl3, zl4, zl5, zl6, zl7, zl8] <;> omega))))
    conv => whnf
    refine Cnd.mk (fun hlt => ?_) fun hge => ?_
    · have hin : i < l.length := by have := of_decide_eq_true hlt; omega
      have hc := fun k => cell_mapJ orow l J default hin k
      have e0 : toI (cellAt (l.map orow ++ J) (0 + (i : Int).toNat) 0) = (l.getD i default).p := by rw [hc]; rfl
      have e1 : cellAt (l.map orow ++ J) (0 + (i : Int).toNat) (0 + 1) = (l.getD i default).y := by rw [hc]; rfl
      repeat ((repeat ((conv => whnf); (first | refine Cnd.yes ?_ | refine Cnd.no ?_ | refine And.intro rfl ?_ | refine And.intro (by omega) ?_ | (refine And.intro ?_ ?_; focus (simp only [IntKind.wrap_i64, IntKind.wrap_u64, IntKind.wrap_u32]; omega)) | (refine And.intro ?_ ?_; focus (simp only [zl1, zl2, zl3, zl4, zl5, zl6, zl7, zl8] <;> omega))))); (conv => whnf); (first | (refine Cnd.tt ?_ ?_; focus (first | (apply decide_eq_true; omega) | (simp only [zq1, zq2, zq3, zq4, zq5, zq6, zq7, zq8, zq9, zq10, zq11, zq12]; omega) | rfl)) | (refine Cnd.ff ?_ ?_; focus (first | (apply decide_eq_false; omega) | (simp only [zq1, zq2, zq3, zq4, zq5, zq6, zq7, zq8, zq9, zq10, zq11, zq12]; omega) | rfl))))
      repeat ((conv => whnf); (first | refine Cnd.yes ?_ | refine Cnd.no ?_ | refine And.intro rfl ?_ | refine And.intro (by omega) ?_ | (refine And.intro ?_ ?_; focus (simp only [IntKind.wrap_i64, IntKind.wrap_u64, IntKind.wrap_u32]; omega)) | (refine And.intro ?_ ?_; focus (simp only [zl1, zl2, zl3, zl4, zl5, zl6, zl7, zl8] <;> omega))))
      conv => whnf
      rw [e0, e1]
      refine ⟨w, o, e, _, _, rfl, rfl, hw, ?_⟩
      repeat ((repeat ((conv => whnf); (first | refine Cnd.yes ?_ | refine Cnd.no ?_ | refine And.intro rfl ?_ | refine And.intro (by omega) ?_ | (refine And.intro ?_ ?_; focus (simp only [IntKind.wrap_i64, IntKind.wrap_u64, IntKind.wrap_u32]; omega)) | (refine And.intro ?_ ?_; focus (simp only [zl1, zl2, zl3, zl4, zl5, zl6, zl7, zl8] <;> omega))))); (conv => whnf); (first | (refine Cnd.tt ?_ ?_; focus (first | (apply decide_eq_true; omega) | (simp only [zq1, zq2, zq3, zq4, zq5, zq6, zq7, zq8, zq9, zq10, zq11, zq12]; omega) | rfl)) | (refine Cnd.ff ?_ ?_; focus (first | (apply decide_eq_false; omega) | (simp only [zq1, zq2, zq3, zq4, zq5, zq6, zq7, zq8, zq9, zq10, zq11, zq12]; omega) | rfl))))
      repeat ((conv => whnf); (first | refine Cnd.yes ?_ | refine Cnd.no ?_ | refine And.intro rfl ?_ | refine And.intro (by omega) ?_ | (refine And.intro ?_ ?_; focus (simp only [IntKind.wrap_i64, IntKind.wrap_u64, IntKind.wrap_u32]; omega)) | (refine And.intro ?_ ?_; focus (simp only [zl1, zl2, zl3, zl4, zl5, zl6, zl7, zl8] <;> omega))))
      conv => whnf
      cases hg : gone w (l.getD i default).p with
      | false =>
        repeat ((repeat ((conv => whnf); (first | refine Cnd.yes ?_ | refine Cnd.no ?_ | refine And.intro rfl ?_ | refine And.intro (by omega) ?_ | (refine And.intro ?_ ?_; focus (simp only [IntKind.wrap_i64, IntKind.wrap_u64, IntKind.wrap_u32]; omega)) | (refine And.intro ?_ ?_; focus (simp only [zl1, zl2, zl3, zl4, zl5, zl6, zl7, zl8] <;> omega))))); (conv => whnf); (first | (refine Cnd.tt ?_ ?_; focus (first | (apply decide_eq_true; omega) | (simp only [zq1, zq2, zq3, zq4, zq5, zq6, zq7, zq8, zq9, zq10, zq11, zq12]; omega) | rfl)) | (refine Cnd.ff ?_ ?_; focus (first | (apply decide_eq_false; omega) | (simp only [zq1, zq2, zq3, zq4, zq5, zq6, zq7, zq8, zq9, zq10, zq11, zq12]; omega) | rfl))))
        repeat ((conv => whnf); (first | refine Cnd.yes ?_ | refine Cnd.no ?_ | refine And.intro rfl ?_ | refine And.intro (by omega) ?_ | (refine And.intro ?_ ?_; focus (simp only [IntKind.wrap_i64, IntKind.wrap_u64, IntKind.wrap_u32]; omega)) | (refine And.intro ?_ ?_; focus (simp only [zl1, zl2, zl3, zl4, zl5, zl6, zl7, zl8] <;> omega))))
        conv => whnf
        (refine ⟨(fun s : Nat => l.length - s) (i + 1), [0, 1, 2, 3], tmk 19 0 ((fun s : Nat => [(0, .slc 1 2 0 l.length), (1, .fn (.func 28) [] [.ptr 3 0 0 0]), (6, .slc 1 2 0 l.length), (7, .v (.int .i64 l.length)), (8, .v (.int .i64 s))]) (i + 1)), (fun s : Nat => tHp true n l J ++ [.row o e [.int .u32] (w.map urow), .cells 36 [.slc 2 1 0 w.length]]) (i + 1), ?_, ?_⟩; focus (first | (simp only []; omega) | omega))
        repeat ((conv => whnf); (first | refine Cnd.yes ?_ | refine Cnd.no ?_ | refine And.intro rfl ?_ | refine And.intro (by omega) ?_ | (refine And.intro ?_ ?_; focus (simp only [IntKind.wrap_i64, IntKind.wrap_u64, IntKind.wrap_u32]; omega)) | (refine And.intro ?_ ?_; focus (simp only [zl1, zl2, zl3, zl4, zl5, zl6, zl7, zl8] <;> omega))))
        conv => whnf
        exact ⟨i + 1, ⟨by omega, fun j hj => by rcases Nat.lt_succ_iff_lt_or_eq.1 hj with h | h; exact hall j h; rw [h]; exact hg⟩, rfl, rfl, (tmkK_eq _ _ _ _).mpr rfl, rfl⟩
      | true =>
        repeat ((repeat ((conv => whnf); (first | refine Cnd.yes ?_ | refine Cnd.no ?_ | refine And.intro rfl ?_ | refine And.intro (by omega) ?_ | (refine And.intro ?_ ?_; focus (simp only [IntKind.wrap_i64, IntKind.wrap_u64, IntKind.wrap_u32]; omega)) | (refine And.intro ?_ ?_; focus (simp only [zl1, zl2, zl3, zl4, zl5, zl6, zl7, zl8] <;> omega))))); (conv => whnf); (first | (refine Cnd.tt ?_ ?_; focus (first | (apply decide_eq_true; omega) | (simp only [zq1, zq2, zq3, zq4, zq5, zq6, zq7, zq8, zq9, zq10, zq11, zq12]; omega) | rfl)) | (refine Cnd.ff ?_ ?_; focus (first | (apply decide_eq_false; omega) | (simp only [zq1, zq2, zq3, zq4, zq5, zq6, zq7, zq8, zq9, zq10, zq11, zq12]; omega) | rfl))))
        repeat ((conv => whnf); (first | refine Cnd.yes ?_ | refine Cnd.no ?_ | refine And.intro rfl ?_ | refine And.intro (by omega) ?_ | (refine And.intro ?_ ?_; focus (simp only [IntKind.wrap_i64, IntKind.wrap_u64, IntKind.wrap_u32]; omega)) | (refine And.intro ?_ ?_; focus (simp only [zl1, zl2, zl3, zl4, zl5, zl6, zl7, zl8] <;> omega))))
        conv => whnf
        refine ⟨InvS 42 (fun s : Nat × Nat × List (List Value) => l.length - s.2.1) (fun s : Nat × Nat × List (List Value) => DI w l J s.1 s.2.1 s.2.2) (fun s : Nat × Nat × List (List Value) => [(0, .slc 1 2 0 l.length), (1, .fn (.func 28) [] [.ptr 3 0 0 0]), (5, .v (.int .i64 s.1)), (6, .v (.int .i64 s.2.1))]) (fun s : Nat × Nat × List (List Value) => [.cells 60 [.v (.int .i64 n), .slc 1 2 0 l.length], .row true 68 ock s.2.2, .row o e [.int .u32] (w.map urow), .cells 36 [.slc 2 1 0 w.length]]) M1, ⟨(fun s : Nat × Nat × List (List Value) => l.length - s.2.1) (i, i + 1, l.map orow ++ J), [0, 1, 2, 3], tmk 42 0 ((fun s : Nat × Nat × List (List Value) => [(0, .slc 1 2 0 l.length), (1, .fn (.func 28) [] [.ptr 3 0 0 0]), (5, .v (.int .i64 s.1)), (6, .v (.int .i64 s.2.1))]) (i, i + 1, l.map orow ++ J)), (fun s : Nat × Nat × List (List Value) => [.cells 60 [.v (.int .i64 n), .slc 1 2 0 l.length], .row true 68 ock s.2.2, .row o e [.int .u32] (w.map urow), .cells 36 [.slc 2 1 0 w.length]]) (i, i + 1, l.map orow ++ J), ?_⟩, ?_⟩
        · repeat ((conv => whnf); (first | refine Cnd.yes ?_ | refine Cnd.no ?_ | refine And.intro rfl ?_ | refine And.intro (by omega) ?_ | (refine And.intro ?_ ?_; focus (simp only [IntKind.wrap_i64, IntKind.wrap_u64, IntKind.wrap_u32]; omega)) | (refine And.intro ?_ ?_; focus (simp only [zl1, zl2, zl3, zl4, zl5, zl6, zl7, zl8] <;> omega))))
          conv => whnf
          exact ⟨(i, i + 1, l.map orow ++ J), DI.start hJ hin hall hg, rfl, rfl, (tmkK_eq _ _ _ _).mpr rfl, rfl⟩
        · rintro cnt tm hp M1 ⟨⟨i,j,R⟩, hC_, rfl, rfl, htm, hhp_⟩
          replace hC_ : DI w l J i j R := hC_
          obtain hC_ := hC_
          replace htm : tmkK 42 0 [(0, .slc 1 2 0 l.length), (1, .fn (.func 28) [] [.ptr 3 0 0 0]), (5, .v (.int .i64 i)), (6, .v (.int .i64 j))] (fun l => tm = l) := htm
          conv at htm => whnf
          subst htm
          replace hhp_ : hp = [.cells 60 [.v (.int .i64 n), .slc 1 2 0 l.length], .row true 68 ock R, .row o e [.int .u32] (w.map urow), .cells 36 [.slc 2 1 0 w.length]] := hhp_
          subst hhp_
          have hD := hC_
          have hD1 := hD.1
          have hD2 := hD.2.1
          have hD3 := hD.2.2.1
          repeat ((repeat ((conv => whnf); (first | refine Cnd.yes ?_ | refine Cnd.no ?_ | refine And.intro rfl ?_ | refine And.intro (by omega) ?_ | (refine And.intro ?_ ?_; focus (simp only [IntKind.wrap_i64, IntKind.wrap_u64, IntKind.wrap_u32]; omega)) | (refine And.intro ?_ ?_; focus (simp only [zl1, zl2, zl3, zl4, zl5, zl6, zl7, zl8] <;> omega))))); (conv => whnf); (first | (refine Cnd.tt ?_ ?_; focus (first | (apply decide_eq_true; omega) | (simp only [zq1, zq2, zq3, zq4, zq5, zq6, zq7, zq8, zq9, zq10, zq11, zq12]; omega) | rfl)) | (refine Cnd.ff ?_ ?_; focus (first | (apply decide_eq_false; omega) | (simp only [zq1, zq2, zq3, zq4, zq5, zq6, zq7, zq8, zq9, zq10, zq11, zq12]; omega) | rfl))))
          repeat ((conv => whnf); (first | refine Cnd.yes ?_ | refine Cnd.no ?_ | refine And.intro rfl ?_ | refine And.intro (by omega) ?_ | (refine And.intro ?_ ?_; focus (simp only [IntKind.wrap_i64, IntKind.wrap_u64, IntKind.wrap_u32]; omega)) | (refine And.intro ?_ ?_; focus (simp only [zl1, zl2, zl3, zl4, zl5, zl6, zl7, zl8] <;> omega))))
          conv => whnf
          refine Cnd.mk (fun hlt => ?_) fun hge => ?_
          · have hjn : j < l.length := by have := of_decide_eq_true hlt; omega
            have e0 : toI (cellAt R (0 + (j : Int).toNat) 0) = (l.getD j default).p := by rw [hD.cell hjn]; rfl
            have e1 : cellAt R (0 + (j : Int).toNat) (0 + 1) = (l.getD j default).y := by rw [hD.cell hjn]; rfl
            repeat ((repeat ((conv => whnf); (first | refine Cnd.yes ?_ | refine Cnd.no ?_ | refine And.intro rfl ?_ | refine And.intro (by omega) ?_ | (refine And.intro ?_ ?_; focus (simp only [IntKind.wrap_i64, IntKind.wrap_u64, IntKind.wrap_u32]; omega)) | (refine And.intro ?_ ?_; focus (simp only [zl1, zl2, zl3, zl4, zl5, zl6, zl7, zl8] <;> omega))))); (conv => whnf); (first | (refine Cnd.tt ?_ ?_; focus (first | (apply decide_eq_true; omega) | (simp only [zq1, zq2, zq3, zq4, zq5, zq6, zq7, zq8, zq9, zq10, zq11, zq12]; omega) | rfl)) | (refine Cnd.ff ?_ ?_; focus (first | (apply decide_eq_false; omega) | (simp only [zq1, zq2, zq3, zq4, zq5, zq6, zq7, zq8, zq9, zq10, zq11, zq12]; omega) | rfl))))
            repeat ((conv => whnf); (first | refine Cnd.yes ?_ | refine Cnd.no ?_ | refine And.intro rfl ?_ | refine And.intro (by omega) ?_ | (refine And.intro ?_ ?_; focus (simp only [IntKind.wrap_i64, IntKind.wrap_u64, IntKind.wrap_u32]; omega)) | (refine And.intro ?_ ?_; focus (simp only [zl1, zl2, zl3, zl4, zl5, zl6, zl7, zl8] <;> omega))))
            conv => whnf
            rw [e0, e1]
            repeat ((repeat ((conv => whnf); (first | refine Cnd.yes ?_ | refine Cnd.no ?_ | refine And.intro rfl ?_ | refine And.intro (by omega) ?_ | (refine And.intro ?_ ?_; focus (simp only [IntKind.wrap_i64, IntKind.wrap_u64, IntKind.wrap_u32]; omega)) | (refine And.intro ?_ ?_; focus (simp only [zl1, zl2, zl3, zl4, zl5, zl6, zl7, zl8] <;> omega))))); (conv => whnf); (first | (refine Cnd.tt ?_ ?_; focus (first | (apply decide_eq_true; omega) | (simp only [zq1, zq2, zq3, zq4, zq5, zq6, zq7, zq8, zq9, zq10, zq11, zq12]; omega) | rfl)) | (refine Cnd.ff ?_ ?_; focus (first | (apply decide_eq_false; omega) | (simp only [zq1, zq2, zq3, zq4, zq5, zq6, zq7, zq8, zq9, zq10, zq11, zq12]; omega) | rfl))))
            repeat ((conv => whnf); (first | refine Cnd.yes ?_ | refine Cnd.no ?_ | refine And.intro rfl ?_ | refine And.intro (by omega) ?_ | (refine And.intro ?_ ?_; focus (simp only [IntKind.wrap_i64, IntKind.wrap_u64, IntKind.wrap_u32]; omega)) | (refine And.intro ?_ ?_; focus (simp only [zl1, zl2, zl3, zl4, zl5, zl6, zl7, zl8] <;> omega))))
            conv => whnf
            refine ⟨w, o, e, _, _, rfl, rfl, hw, ?_⟩
            repeat ((repeat ((conv => whnf); (first | refine Cnd.yes ?_ | refine Cnd.no ?_ | refine And.intro rfl ?_ | refine And.intro (by omega) ?_ | (refine And.intro ?_ ?_; focus (simp only [IntKind.wrap_i64, IntKind.wrap_u64, IntKind.wrap_u32]; omega)) | (refine And.intro ?_ ?_; focus (simp only [zl1, zl2, zl3, zl4, zl5, zl6, zl7, zl8] <;> omega))))); (conv => whnf); (first | (refine Cnd.tt ?_ ?_; focus (first | (apply decide_eq_true; omega) | (simp only [zq1, zq2, zq3, zq4, zq5, zq6, zq7, zq8, zq9, zq10, zq11, zq12]; omega) | rfl)) | (refine Cnd.ff ?_ ?_; focus (first | (apply decide_eq_false; omega) | (simp only [zq1, zq2, zq3, zq4, zq5, zq6, zq7, zq8, zq9, zq10, zq11, zq12]; omega) | rfl))))
            repeat ((conv => whnf); (first | refine Cnd.yes ?_ | refine Cnd.no ?_ | refine And.intro rfl ?_ | refine And.intro (by omega) ?_ | (refine And.intro ?_ ?_; focus (simp only [IntKind.wrap_i64, IntKind.wrap_u64, IntKind.wrap_u32]; omega)) | (refine And.intro ?_ ?_; focus (simp only [zl1, zl2, zl3, zl4, zl5, zl6, zl7, zl8] <;> omega))))
            conv => whnf
            cases hg : gone w (l.getD j default).p with
            | false =>
              repeat ((repeat ((conv => whnf); (first | refine Cnd.yes ?_ | refine Cnd.no ?_ | refine And.intro rfl ?_ | refine And.intro (by omega) ?_ | (refine And.intro ?_ ?_; focus (simp only [IntKind.wrap_i64, IntKind.wrap_u64, IntKind.wrap_u32]; omega)) | (refine And.intro ?_ ?_; focus (simp only [zl1, zl2, zl3, zl4, zl5, zl6, zl7, zl8] <;> omega))))); (conv => whnf); (first | (refine Cnd.tt ?_ ?_; focus (first | (apply decide_eq_true; omega) | (simp only [zq1, zq2, zq3, zq4, zq5, zq6, zq7, zq8, zq9, zq10, zq11, zq12]; omega) | rfl)) | (refine Cnd.ff ?_ ?_; focus (first | (apply decide_eq_false; omega) | (simp only [zq1, zq2, zq3, zq4, zq5, zq6, zq7, zq8, zq9, zq10, zq11, zq12]; omega) | rfl))))
              repeat ((conv => whnf); (first | refine Cnd.yes ?_ | refine Cnd.no ?_ | refine And.intro rfl ?_ | refine And.intro (by omega) ?_ | (refine And.intro ?_ ?_; focus (simp only [IntKind.wrap_i64, IntKind.wrap_u64, IntKind.wrap_u32]; omega)) | (refine And.intro ?_ ?_; focus (simp only [zl1, zl2, zl3, zl4, zl5, zl6, zl7, zl8] <;> omega))))
              conv => whnf
              (refine ⟨(fun s : Nat × Nat × List (List Value) => l.length - s.2.1) ((i + 1, j + 1, R.set (0 + (i : Int).toNat) (over (R.getD (0 + (i : Int).toNat) []) 0 [.int .u32 (l.getD j default).p, (l.getD j default).y]))), [0, 1, 2, 3], tmk 42 0 ((fun s : Nat × Nat × List (List Value) => [(0, .slc 1 2 0 l.length), (1, .fn (.func 28) [] [.ptr 3 0 0 0]), (5, .v (.int .i64 s.1)), (6, .v (.int .i64 s.2.1))]) ((i + 1, j + 1, R.set (0 + (i : Int).toNat) (over (R.getD (0 + (i : Int).toNat) []) 0 [.int .u32 (l.getD j default).p, (l.getD j default).y])))), (fun s : Nat × Nat × List (List Value) => [.cells 60 [.v (.int .i64 n), .slc 1 2 0 l.length], .row true 68 ock s.2.2, .row o e [.int .u32] (w.map urow), .cells 36 [.slc 2 1 0 w.length]]) ((i + 1, j + 1, R.set (0 + (i : Int).toNat) (over (R.getD (0 + (i : Int).toNat) []) 0 [.int .u32 (l.getD j default).p, (l.getD j default).y]))), ?_, ?_⟩; focus (first | (simp only []; omega) | omega))
              repeat ((conv => whnf); (first | refine Cnd.yes ?_ | refine Cnd.no ?_ | refine And.intro rfl ?_ | refine And.intro (by omega) ?_ | (refine And.intro ?_ ?_; focus (simp only [IntKind.wrap_i64, IntKind.wrap_u64, IntKind.wrap_u32]; omega)) | (refine And.intro ?_ ?_; focus (simp only [zl1, zl2, zl3, zl4, zl5, zl6, zl7, zl8] <;> omega))))
              conv => whnf
              exact ⟨(i + 1, j + 1, R.set (0 + (i : Int).toNat) (over (R.getD (0 + (i : Int).toNat) []) 0 [.int .u32 (l.getD j default).p, (l.getD j default).y])), hD.put hjn hg, rfl, rfl, (tmkK_eq _ _ _ _).mpr rfl, rfl⟩
            | true =>
              repeat ((repeat ((conv => whnf); (first | refine Cnd.yes ?_ | refine Cnd.no ?_ | refine And.intro rfl ?_ | refine And.intro (by omega) ?_ | (refine And.intro ?_ ?_; focus (simp only [IntKind.wrap_i64, IntKind.wrap_u64, IntKind.wrap_u32]; omega)) | (refine And.intro ?_ ?_; focus (simp only [zl1, zl2, zl3, zl4, zl5, zl6, zl7, zl8] <;> omega))))); (conv => whnf); (first | (refine Cnd.tt ?_ ?_; focus (first | (apply decide_eq_true; omega) | (simp only [zq1, zq2, zq3, zq4, zq5, zq6, zq7, zq8, zq9, zq10, zq11, zq12]; omega) | rfl)) | (refine Cnd.ff ?_ ?_; focus (first | (apply decide_eq_false; omega) | (simp only [zq1, zq2, zq3, zq4, zq5, zq6, zq7, zq8, zq9, zq10, zq11, zq12]; omega) | rfl))))
              repeat ((conv => whnf); (first | refine Cnd.yes ?_ | refine Cnd.no ?_ | refine And.intro rfl ?_ | refine And.intro (by omega) ?_ | (refine And.intro ?_ ?_; focus (simp only [IntKind.wrap_i64, IntKind.wrap_u64, IntKind.wrap_u32]; omega)) | (refine And.intro ?_ ?_; focus (simp only [zl1, zl2, zl3, zl4, zl5, zl6, zl7, zl8] <;> omega))))
              conv => whnf
              (refine ⟨(fun s : Nat × Nat × List (List Value) => l.length - s.2.1) ((i, j + 1, R)), [0, 1, 2, 3], tmk 42 0 ((fun s : Nat × Nat × List (List Value) => [(0, .slc 1 2 0 l.length), (1, .fn (.func 28) [] [.ptr 3 0 0 0]), (5, .v (.int .i64 s.1)), (6, .v (.int .i64 s.2.1))]) ((i, j + 1, R))), (fun s : Nat × Nat × List (List Value) => [.cells 60 [.v (.int .i64 n), .slc 1 2 0 l.length], .row true 68 ock s.2.2, .row o e [.int .u32] (w.map urow), .cells 36 [.slc 2 1 0 w.length]]) ((i, j + 1, R)), ?_, ?_⟩; focus (first | (simp only []; omega) | omega))
              repeat ((conv => whnf); (first | refine Cnd.yes ?_ | refine Cnd.no ?_ | refine And.intro rfl ?_ | refine And.intro (by omega) ?_ | (refine And.intro ?_ ?_; focus (simp only [IntKind.wrap_i64, IntKind.wrap_u64, IntKind.wrap_u32]; omega)) | (refine And.intro ?_ ?_; focus (simp only [zl1, zl2, zl3, zl4, zl5, zl6, zl7, zl8] <;> omega))))
              conv => whnf
              exact ⟨(i, j + 1, R), hD.skip hjn hg, rfl, rfl, (tmkK_eq _ _ _ _).mpr rfl, rfl⟩
          · have hjn : j = l.length := by have := of_decide_eq_false hge; omega
            subst hjn
            obtain ⟨hf, J', hR, hJ', hJl⟩ := hD.fin
            repeat ((repeat ((conv => whnf); (first | refine Cnd.yes ?_ | refine Cnd.no ?_ | refine And.intro rfl ?_ | refine And.intro (by omega) ?_ | (refine And.intro ?_ ?_; focus (simp only [IntKind.wrap_i64, IntKind.wrap_u64, IntKind.wrap_u32]; omega)) | (refine And.intro ?_ ?_; focus (simp only [zl1, zl2, zl3, zl4, zl5, zl6, zl7, zl8] <;> omega))))); (conv => whnf); (first | (refine Cnd.tt ?_ ?_; focus (first | (apply decide_eq_true; omega) | (simp only [zq1, zq2, zq3, zq4, zq5, zq6, zq7, zq8, zq9, zq10, zq11, zq12]; omega) | rfl)) | (refine Cnd.ff ?_ ?_; focus (first | (apply decide_eq_false; omega) | (simp only [zq1, zq2, zq3, zq4, zq5, zq6, zq7, zq8, zq9, zq10, zq11, zq12]; omega) | rfl))))
            repeat ((conv => whnf); (first | refine Cnd.yes ?_ | refine Cnd.no ?_ | refine And.intro rfl ?_ | refine And.intro (by omega) ?_ | (refine And.intro ?_ ?_; focus (simp only [IntKind.wrap_i64, IntKind.wrap_u64, IntKind.wrap_u32]; omega)) | (refine And.intro ?_ ?_; focus (simp only [zl1, zl2, zl3, zl4, zl5, zl6, zl7, zl8] <;> omega))))
            conv => whnf
            refine ⟨[0, 1, 2], .tup [], tHp true n (l.filter (keep w)) J' ++ [.row o e [.int .u32] (w.map urow)], ?_⟩
            repeat ((conv => whnf); (first | refine Cnd.yes ?_ | refine Cnd.no ?_ | refine And.intro rfl ?_ | refine And.intro (by omega) ?_ | (refine And.intro ?_ ?_; focus (simp only [IntKind.wrap_i64, IntKind.wrap_u64, IntKind.wrap_u32]; omega)) | (refine And.intro ?_ ?_; focus (simp only [zl1, zl2, zl3, zl4, zl5, zl6, zl7, zl8] <;> omega))))
            conv => whnf
            refine ⟨hR, ?_⟩
            repeat ((conv => whnf); (first | refine Cnd.yes ?_ | refine Cnd.no ?_ | refine And.intro rfl ?_ | refine And.intro (by omega) ?_ | (refine And.intro ?_ ?_; focus (simp only [IntKind.wrap_i64, IntKind.wrap_u64, IntKind.wrap_u32]; omega)) | (refine And.intro ?_ ?_; focus (simp only [zl1, zl2, zl3, zl4, zl5, zl6, zl7, zl8] <;> omega))))
            conv => whnf
            exact hK J' hJ' (by rw [hf]; exact hJl)
    · have hin : i = l.length := by have := of_decide_eq_false hge; omega
      subst hin
      have hf := all_kept w l l.length (Nat.le_refl _) hall
      rw [List.take_of_length_le (Nat.le_refl _)] at hf
      repeat ((repeat ((conv => whnf); (first | refine Cnd.yes ?_ | refine Cnd.no ?_ | refine And.intro rfl ?_ | refine And.intro (by omega) ?_ | (refine And.intro ?_ ?_; focus (simp only [IntKind.wrap_i64, IntKind.wrap_u64, IntKind.wrap_u32]; omega)) | (refine And.intro ?_ ?_; focus (simp only [zl1, zl2, zl3, zl4, zl5, zl6, zl7, zl8] <;> omega))))); (conv => whnf); (first | (refine Cnd.tt ?_ ?_; focus (first | (apply decide_eq_true; omega) | (simp only [zq1, zq2, zq3, zq4, zq5, zq6, zq7, zq8, zq9, zq10, zq11, zq12]; omega) | rfl)) | (refine Cnd.ff ?_ ?_; focus (first | (apply decide_eq_false; omega) | (simp only [zq1, zq2, zq3, zq4, zq5, zq6, zq7, zq8, zq9, zq10, zq11, zq12]; omega) | rfl))))
      repeat ((conv => whnf); (first | refine Cnd.yes ?_ | refine Cnd.no ?_ | refine And.intro rfl ?_ | refine And.intro (by omega) ?_ | (refine And.intro ?_ ?_; focus (simp only [IntKind.wrap_i64, IntKind.wrap_u64, IntKind.wrap_u32]; omega)) | (refine And.intro ?_ ?_; focus (simp only [zl1, zl2, zl3, zl4, zl5, zl6, zl7, zl8] <;> omega))))
      conv => whnf
      refine ⟨[0, 1, 2], .tup [], tHp true n l J ++ [.row o e [.int .u32] (w.map urow)], ?_⟩
      repeat ((conv => whnf); (first | refine Cnd.yes ?_ | refine Cnd.no ?_ | refine And.intro rfl ?_ | refine And.intro (by omega) ?_ | (refine And.intro ?_ ?_; focus (simp only [IntKind.wrap_i64, IntKind.wrap_u64, IntKind.wrap_u32]; omega)) | (refine And.intro ?_ ?_; focus (simp only [zl1, zl2, zl3, zl4, zl5, zl6, zl7, zl8] <;> omega))))
      conv => whnf
      replace hK := hK J hJ (by rw [hf])
      rw [hf] at hK
      exact hK
def flushS : Vc.Spec := fun args hp M K => ∃ (n : Int) (l : List One) (J : List (List Value)) (w : List Int) (o : Bool) (e : TypeId), args = [.ptr 0 0 0 0, .slc 2 1 0 w.length] ∧ hp = tHp true n l J ++ [.row o e [.int .u32] (w.map urow)] ∧ l.length ≤ 100 ∧ (∀ r ∈ J, r.length = 2) ∧ w.length ≤ 1000000 ∧
    ∀ J', (∀ r ∈ J', r.length = 2) → (l.filter (keep w)).length + J'.length = l.length + J.length → K (.tup []) (tHp true n (l.filter (keep w)) J' ++ [.row o e [.int .u32] (w.map urow)])
theorem flush_ok : SOK Tryd.prog 10 flushS := by
  refine TOK.weaken (TOK.out (runF_eq G3_ok mixed at10.1 at10.2 pf10_eq)) fun args hp M K h => ?_
  obtain ⟨n, l, J, w, o, e, rfl, rfl, h1, h2, h3, h4⟩ := h
  exact flush_run M K n l J w o e h1 h2 h3 h4
end Go.Proofs.YtdmcdlgcmeledaaDoor
