/-
  The document's TLB: SamePte, SamePtes, Find, walked; their contracts.
-/
import Derived.Test.YtdmcdlgcmeledaaDoorCk
namespace Go.Proofs.YtdmcdlgcmeledaaDoor
open Go Go.Vc
set_option maxRecDepth 100000
set_option linter.unusedSimpArgs false
set_option linter.unusedVariables false
def psv (x : Pte) : List SV := [.v (.int .u32 x.a), .v (.int .u32 x.b), .v (.int .u32 x.c), .v (.int .i64 x.d), .v (.bool x.f)]
theorem samep_run (M : HL) (K : SV → List Ent → HL → Prop) (x y : Pte) (hK : K (.v (.bool (decide (x = y)))) [] M) :
    runF G0 pf30 [.agg (psv x), .agg (psv y)] [] M fun v hp2 M2 => ∃ m v' hp', Wk (llen ([] : List Ent)) m [v] hp2 [v'] hp' (K v' hp' M2) := by
  obtain ⟨a, b, c, d, f⟩ := x
  obtain ⟨a2, b2, c2, d2, f2⟩ := y
  by_cases h1 : a = a2
  · by_cases h2 : b = b2
    · by_cases h3 : c = c2
      · by_cases h4 : d = d2
        · repeat ((conv => whnf); (first | refine Cnd.yes ?_ | refine Cnd.no ?_ | refine And.intro rfl ?_ | refine And.intro (by omega) ?_ | (refine And.intro ?_ ?_; focus (simp only [IntKind.wrap_i64, IntKind.wrap_u64, IntKind.wrap_u32]; omega)) | (refine And.intro ?_ ?_; focus (simp only [zl1, zl2, zl3, zl4, zl5, zl6, zl7, zl8] <;> omega)) | (refine Cnd.tt ?_ ?_; focus (first | (apply decide_eq_true; omega) | (simp only [zq1, zq2, zq3, zq4, zq5, zq6, zq7, zq8, zq9, zq10, zq11, zq12] <;> omega) | rfl)) | (refine Cnd.ff ?_ ?_; focus (first | (apply decide_eq_false; omega) | (simp only [zq1, zq2, zq3, zq4, zq5, zq6, zq7, zq8, zq9, zq10, zq11, zq12] <;> omega) | rfl))))
          conv => whnf
          refine ⟨[], .v (.bool (decide (⟨a, b, c, d, f⟩ = (⟨a2, b2, c2, d2, f2⟩ : Pte)))), [], ?_⟩
          subst h1 h2 h3 h4
          repeat ((conv => whnf); (first | refine Cnd.yes ?_ | refine Cnd.no ?_ | refine And.intro rfl ?_ | refine And.intro (by omega) ?_ | (refine And.intro ?_ ?_; focus (simp only [IntKind.wrap_i64, IntKind.wrap_u64, IntKind.wrap_u32]; omega)) | (refine And.intro ?_ ?_; focus (simp only [zl1, zl2, zl3, zl4, zl5, zl6, zl7, zl8] <;> omega))))
          conv => whnf
          refine ⟨by cases f <;> cases f2 <;> simp, ?_⟩
          repeat ((conv => whnf); (first | refine Cnd.yes ?_ | refine Cnd.no ?_ | refine And.intro rfl ?_ | refine And.intro (by omega) ?_ | (refine And.intro ?_ ?_; focus (simp only [IntKind.wrap_i64, IntKind.wrap_u64, IntKind.wrap_u32]; omega)) | (refine And.intro ?_ ?_; focus (simp only [zl1, zl2, zl3, zl4, zl5, zl6, zl7, zl8] <;> omega))))
          conv => whnf
          exact hK
        · repeat ((conv => whnf); (first | refine Cnd.yes ?_ | refine Cnd.no ?_ | refine And.intro rfl ?_ | refine And.intro (by omega) ?_ | (refine And.intro ?_ ?_; focus (simp only [IntKind.wrap_i64, IntKind.wrap_u64, IntKind.wrap_u32]; omega)) | (refine And.intro ?_ ?_; focus (simp only [zl1, zl2, zl3, zl4, zl5, zl6, zl7, zl8] <;> omega)) | (refine Cnd.tt ?_ ?_; focus (first | (apply decide_eq_true; omega) | (simp only [zq1, zq2, zq3, zq4, zq5, zq6, zq7, zq8, zq9, zq10, zq11, zq12] <;> omega) | rfl)) | (refine Cnd.ff ?_ ?_; focus (first | (apply decide_eq_false; omega) | (simp only [zq1, zq2, zq3, zq4, zq5, zq6, zq7, zq8, zq9, zq10, zq11, zq12] <;> omega) | rfl))))
          conv => whnf
          rw [decide_eq_false (by simp [h4])] at hK
          refine ⟨[], .v (.bool false), [], ?_⟩
          repeat ((conv => whnf); (first | refine Cnd.yes ?_ | refine Cnd.no ?_ | refine And.intro rfl ?_ | refine And.intro (by omega) ?_ | (refine And.intro ?_ ?_; focus (simp only [IntKind.wrap_i64, IntKind.wrap_u64, IntKind.wrap_u32]; omega)) | (refine And.intro ?_ ?_; focus (simp only [zl1, zl2, zl3, zl4, zl5, zl6, zl7, zl8] <;> omega))))
          conv => whnf
          exact hK
      · repeat ((conv => whnf); (first | refine Cnd.yes ?_ | refine Cnd.no ?_ | refine And.intro rfl ?_ | refine And.intro (by omega) ?_ | (refine And.intro ?_ ?_; focus (simp only [IntKind.wrap_i64, IntKind.wrap_u64, IntKind.wrap_u32]; omega)) | (refine And.intro ?_ ?_; focus (simp only [zl1, zl2, zl3, zl4, zl5, zl6, zl7, zl8] <;> omega)) | (refine Cnd.tt ?_ ?_; focus (first | (apply decide_eq_true; omega) | (simp only [zq1, zq2, zq3, zq4, zq5, zq6, zq7, zq8, zq9, zq10, zq11, zq12] <;> omega) | rfl)) | (refine Cnd.ff ?_ ?_; focus (first | (apply decide_eq_false; omega) | (simp only [zq1, zq2, zq3, zq4, zq5, zq6, zq7, zq8, zq9, zq10, zq11, zq12] <;> omega) | rfl))))
        conv => whnf
        rw [decide_eq_false (by simp [h3])] at hK
        refine ⟨[], .v (.bool false), [], ?_⟩
        repeat ((conv => whnf); (first | refine Cnd.yes ?_ | refine Cnd.no ?_ | refine And.intro rfl ?_ | refine And.intro (by omega) ?_ | (refine And.intro ?_ ?_; focus (simp only [IntKind.wrap_i64, IntKind.wrap_u64, IntKind.wrap_u32]; omega)) | (refine And.intro ?_ ?_; focus (simp only [zl1, zl2, zl3, zl4, zl5, zl6, zl7, zl8] <;> omega))))
        conv => whnf
        exact hK
    · repeat ((conv => whnf); (first | refine Cnd.yes ?_ | refine Cnd.no ?_ | refine And.intro rfl ?_ | refine And.intro (by omega) ?_ | (refine And.intro ?_ ?_; focus (simp only [IntKind.wrap_i64, IntKind.wrap_u64, IntKind.wrap_u32]; omega)) | (refine And.intro ?_ ?_; focus (simp only [zl1, zl2, zl3, zl4, zl5, zl6, zl7, zl8] <;> omega)) | (refine Cnd.tt ?_ ?_; focus (first | (apply decide_eq_true; omega) | (simp only [zq1, zq2, zq3, zq4, zq5, zq6, zq7, zq8, zq9, zq10, zq11, zq12] <;> omega) | rfl)) | (refine Cnd.ff ?_ ?_; focus (first | (apply decide_eq_false; omega) | (simp only [zq1, zq2, zq3, zq4, zq5, zq6, zq7, zq8, zq9, zq10, zq11, zq12] <;> omega) | rfl))))
      conv => whnf
      rw [decide_eq_false (by simp [h2])] at hK
      refine ⟨[], .v (.bool false), [], ?_⟩
      repeat ((conv => whnf); (first | refine Cnd.yes ?_ | refine Cnd.no ?_ | refine And.intro rfl ?_ | refine And.intro (by omega) ?_ | (refine And.intro ?_ ?_; focus (simp only [IntKind.wrap_i64, IntKind.wrap_u64, IntKind.wrap_u32]; omega)) | (refine And.intro ?_ ?_; focus (simp only [zl1, zl2, zl3, zl4, zl5, zl6, zl7, zl8] <;> omega))))
      conv => whnf
      exact hK
  · repeat ((conv => whnf); (first | refine Cnd.yes ?_ | refine Cnd.no ?_ | refine And.intro rfl ?_ | refine And.intro (by omega) ?_ | (refine And.intro ?_ ?_; focus (simp only [IntKind.wrap_i64, IntKind.wrap_u64, IntKind.wrap_u32]; omega)) | (refine And.intro ?_ ?_; focus (simp only [zl1, zl2, zl3, zl4, zl5, zl6, zl7, zl8] <;> omega)) | (refine Cnd.tt ?_ ?_; focus (first | (apply decide_eq_true; omega) | (simp only [zq1, zq2, zq3, zq4, zq5, zq6, zq7, zq8, zq9, zq10, zq11, zq12] <;> omega) | rfl)) | (refine Cnd.ff ?_ ?_; focus (first | (apply decide_eq_false; omega) | (simp only [zq1, zq2, zq3, zq4, zq5, zq6, zq7, zq8, zq9, zq10, zq11, zq12] <;> omega) | rfl))))
    conv => whnf
    rw [decide_eq_false (by simp [h1])] at hK
    refine ⟨[], .v (.bool false), [], ?_⟩
    repeat ((conv => whnf); (first | refine Cnd.yes ?_ | refine Cnd.no ?_ | refine And.intro rfl ?_ | refine And.intro (by omega) ?_ | (refine And.intro ?_ ?_; focus (simp only [IntKind.wrap_i64, IntKind.wrap_u64, IntKind.wrap_u32]; omega)) | (refine And.intro ?_ ?_; focus (simp only [zl1, zl2, zl3, zl4, zl5, zl6, zl7, zl8] <;> omega))))
    conv => whnf
    exact hK
def samepS : Vc.Spec := fun args hp _ K => ∃ (x y : Pte), args = [.agg (psv x), .agg (psv y)] ∧ hp = [] ∧ K (.v (.bool (decide (x = y)))) []
theorem samep_ok : SOK Tryd.prog 30 samepS := by
  refine TOK.weaken (TOK.out (runF_eq G0_ok mixed at30.1 at30.2 pf30_eq)) fun args hp M K h => ?_
  obtain ⟨x, y, rfl, rfl, h⟩ := h
  exact samep_run M K x y h
noncomputable def specs7 : Nat → Option Vc.Trans := tget [(30, frameT samepS), (25, frameT ratS)]
noncomputable def G7 : Nat → Option Vc.Trans := tabG specs7 (tget tab) 5
theorem G7_ok : GOK Tryd.prog G7 := tabG_ok (GOK.cons (frame_ok samep_ok) (GOK.cons (frame_ok rat_ok) .nil)) tab_ok 5
theorem sameps_run (M : HL) (K : SV → List Ent → HL → Prop) (a b : List Pte) (o o2 : Bool) (e e2 : TypeId) (ha : a.length ≤ 1000000) (hb : b.length ≤ 1000000)
    (hK : K (.v (.bool (decide (a = b)))) [.row o e pck (a.map prow), .row o2 e2 pck (b.map prow)] M) :
    runF G7 pf14 [.slc 0 5 0 a.length, .slc 1 5 0 b.length] [.row o e pck (a.map prow), .row o2 e2 pck (b.map prow)] M K := by
  repeat ((conv => whnf); (first | refine Cnd.yes ?_ | refine Cnd.no ?_ | refine And.intro rfl ?_ | refine And.intro (by omega) ?_ | (refine And.intro ?_ ?_; focus (simp only [IntKind.wrap_i64, IntKind.wrap_u64, IntKind.wrap_u32]; omega)) | (refine And.intro ?_ ?_; focus (simp only [zl1, zl2, zl3, zl4, zl5, zl6, zl7, zl8] <;> omega))))
  conv => whnf
  by_cases hl : a.length = b.length
  · refine Cnd.ff (by rw [hl]; simp) ?_
    repeat ((conv => whnf); (first | refine Cnd.yes ?_ | refine Cnd.no ?_ | refine And.intro rfl ?_ | refine And.intro (by omega) ?_ | (refine And.intro ?_ ?_; focus (simp only [IntKind.wrap_i64, IntKind.wrap_u64, IntKind.wrap_u32]; omega)) | (refine And.intro ?_ ?_; focus (simp only [zl1, zl2, zl3, zl4, zl5, zl6, zl7, zl8] <;> omega))))
    conv => whnf
    refine ⟨InvS 29 (fun s : Nat => a.length - s) (fun s : Nat => s ≤ a.length ∧ ∀ j, j < s → a.getD j default = b.getD j default) (fun s : Nat => [(0, .slc 0 5 0 a.length), (1, .slc 1 5 0 b.length), (5, .v (.int .i64 s))]) (fun s : Nat => [Ent.row o e pck (a.map prow), .row o2 e2 pck (b.map prow)]) M, ⟨(fun s : Nat => a.length - s) 0, [0, 1], tmk 29 0 ((fun s : Nat => [(0, .slc 0 5 0 a.length), (1, .slc 1 5 0 b.length), (5, .v (.int .i64 s))]) 0), (fun s : Nat => [Ent.row o e pck (a.map prow), .row o2 e2 pck (b.map prow)]) 0, ?_⟩, ?_⟩
    · repeat ((conv => whnf); (first | refine Cnd.yes ?_ | refine Cnd.no ?_ | refine And.intro rfl ?_ | refine And.intro (by omega) ?_ | (refine And.intro ?_ ?_; focus (simp only [IntKind.wrap_i64, IntKind.wrap_u64, IntKind.wrap_u32]; omega)) | (refine And.intro ?_ ?_; focus (simp only [zl1, zl2, zl3, zl4, zl5, zl6, zl7, zl8] <;> omega))))
      conv => whnf
      exact ⟨0, ⟨by omega, fun j hj => by omega⟩, rfl, rfl, (tmkK_eq _ _ _ _).mpr rfl, rfl⟩
    · rintro cnt tm hp M1 ⟨i, hC_, rfl, rfl, htm, hhp_⟩
      replace hC_ : i ≤ a.length ∧ ∀ j, j < i → a.getD j default = b.getD j default := hC_
      obtain ⟨hi, hall⟩ := hC_
      replace htm : tmkK 29 0 [(0, .slc 0 5 0 a.length), (1, .slc 1 5 0 b.length), (5, .v (.int .i64 i))] (fun l => tm = l) := htm
      conv at htm => whnf
      subst htm
      replace hhp_ : hp = [Ent.row o e pck (a.map prow), .row o2 e2 pck (b.map prow)] := hhp_
      subst hhp_
      repeat ((conv => whnf); (first | refine Cnd.yes ?_ | refine Cnd.no ?_ | refine And.intro rfl ?_ | refine And.intro (by omega) ?_ | (refine And.intro ?_ ?_; focus (simp only [IntKind.wrap_i64, IntKind.wrap_u64, IntKind.wrap_u32]; omega)) | (refine And.intro ?_ ?_; focus (simp only [zl1, zl2, zl3, zl4, zl5, zl6, zl7, zl8] <;> omega))))
      conv => whnf
      refine Cnd.mk (fun hlt => ?_) fun hge => ?_
      · have hin : i < a.length := by have := of_decide_eq_true hlt; omega
        have hin2 : i < b.length := by omega
        have c0a : toI (cellAt (a.map prow) (0 + (i : Int).toNat) 0) = (a.getD i default).a := by rw [cell_map prow a default hin]; rfl
        have c1a : toI (cellAt (a.map prow) (0 + (i : Int).toNat) (0 + 1)) = (a.getD i default).b := by rw [cell_map prow a default hin]; rfl
        have c2a : toI (cellAt (a.map prow) (0 + (i : Int).toNat) (0 + 1 + 1)) = (a.getD i default).c := by rw [cell_map prow a default hin]; rfl
        have c3a : toI (cellAt (a.map prow) (0 + (i : Int).toNat) (0 + 1 + 1 + 1)) = (a.getD i default).d := by rw [cell_map prow a default hin]; rfl
        have c4a : toB (cellAt (a.map prow) (0 + (i : Int).toNat) (0 + 1 + 1 + 1 + 1)) = (a.getD i default).f := by rw [cell_map prow a default hin]; rfl
        have c0b : toI (cellAt (b.map prow) (0 + (i : Int).toNat) 0) = (b.getD i default).a := by rw [cell_map prow b default hin2]; rfl
        have c1b : toI (cellAt (b.map prow) (0 + (i : Int).toNat) (0 + 1)) = (b.getD i default).b := by rw [cell_map prow b default hin2]; rfl
        have c2b : toI (cellAt (b.map prow) (0 + (i : Int).toNat) (0 + 1 + 1)) = (b.getD i default).c := by rw [cell_map prow b default hin2]; rfl
        have c3b : toI (cellAt (b.map prow) (0 + (i : Int).toNat) (0 + 1 + 1 + 1)) = (b.getD i default).d := by rw [cell_map prow b default hin2]; rfl
        have c4b : toB (cellAt (b.map prow) (0 + (i : Int).toNat) (0 + 1 + 1 + 1 + 1)) = (b.getD i default).f := by rw [cell_map prow b default hin2]; rfl
        repeat ((conv => whnf); (first | refine Cnd.yes ?_ | refine Cnd.no ?_ | refine And.intro rfl ?_ | refine And.intro (by omega) ?_ | (refine And.intro ?_ ?_; focus (simp only [IntKind.wrap_i64, IntKind.wrap_u64, IntKind.wrap_u32]; omega)) | (refine And.intro ?_ ?_; focus (simp only [zl1, zl2, zl3, zl4, zl5, zl6, zl7, zl8] <;> omega)) | (refine Cnd.tt ?_ ?_; focus (first | (apply decide_eq_true; omega) | (simp only [zq1, zq2, zq3, zq4, zq5, zq6, zq7, zq8, zq9, zq10, zq11, zq12] <;> omega) | rfl)) | (refine Cnd.ff ?_ ?_; focus (first | (apply decide_eq_false; omega) | (simp only [zq1, zq2, zq3, zq4, zq5, zq6, zq7, zq8, zq9, zq10, zq11, zq12] <;> omega) | rfl))))
        conv => whnf
        intro Mr hMr
        repeat ((conv => whnf); (first | refine Cnd.yes ?_ | refine Cnd.no ?_ | refine And.intro rfl ?_ | refine And.intro (by omega) ?_ | (refine And.intro ?_ ?_; focus (simp only [IntKind.wrap_i64, IntKind.wrap_u64, IntKind.wrap_u32]; omega)) | (refine And.intro ?_ ?_; focus (simp only [zl1, zl2, zl3, zl4, zl5, zl6, zl7, zl8] <;> omega))))
        conv => whnf
        rw [c0a, c1a, c2a, c3a, c4a, c0b, c1b, c2b, c3b, c4b]
        refine ⟨a.getD i default, b.getD i default, rfl, rfl, ?_⟩
        by_cases hv : a.getD i default = b.getD i default
        · rw [decide_eq_true hv]
          repeat ((conv => whnf); (first | refine Cnd.yes ?_ | refine Cnd.no ?_ | refine And.intro rfl ?_ | refine And.intro (by omega) ?_ | (refine And.intro ?_ ?_; focus (simp only [IntKind.wrap_i64, IntKind.wrap_u64, IntKind.wrap_u32]; omega)) | (refine And.intro ?_ ?_; focus (simp only [zl1, zl2, zl3, zl4, zl5, zl6, zl7, zl8] <;> omega)) | (refine Cnd.tt ?_ ?_; focus (first | (apply decide_eq_true; omega) | (simp only [zq1, zq2, zq3, zq4, zq5, zq6, zq7, zq8, zq9, zq10, zq11, zq12] <;> omega) | rfl)) | (refine Cnd.ff ?_ ?_; focus (first | (apply decide_eq_false; omega) | (simp only [zq1, zq2, zq3, zq4, zq5, zq6, zq7, zq8, zq9, zq10, zq11, zq12] <;> omega) | rfl))))
          conv => whnf
          (refine ⟨(fun s : Nat => a.length - s) (i + 1), [0, 1], tmk 29 0 ((fun s : Nat => [(0, .slc 0 5 0 a.length), (1, .slc 1 5 0 b.length), (5, .v (.int .i64 s))]) (i + 1)), (fun s : Nat => [Ent.row o e pck (a.map prow), .row o2 e2 pck (b.map prow)]) (i + 1), ?_, ?_⟩; focus (first | (simp only []; omega) | omega))
          repeat ((conv => whnf); (first | refine Cnd.yes ?_ | refine Cnd.no ?_ | refine And.intro rfl ?_ | refine And.intro (by omega) ?_ | (refine And.intro ?_ ?_; focus (simp only [IntKind.wrap_i64, IntKind.wrap_u64, IntKind.wrap_u32]; omega)) | (refine And.intro ?_ ?_; focus (simp only [zl1, zl2, zl3, zl4, zl5, zl6, zl7, zl8] <;> omega))))
          conv => whnf
          exact ⟨i + 1, ⟨by omega, fun j hj => by rcases Nat.lt_succ_iff_lt_or_eq.1 hj with h | h; exact hall j h; rw [h]; exact hv⟩, rfl, rfl, (tmkK_eq _ _ _ _).mpr rfl, rfl⟩
        · rw [decide_eq_false hv]
          repeat ((conv => whnf); (first | refine Cnd.yes ?_ | refine Cnd.no ?_ | refine And.intro rfl ?_ | refine And.intro (by omega) ?_ | (refine And.intro ?_ ?_; focus (simp only [IntKind.wrap_i64, IntKind.wrap_u64, IntKind.wrap_u32]; omega)) | (refine And.intro ?_ ?_; focus (simp only [zl1, zl2, zl3, zl4, zl5, zl6, zl7, zl8] <;> omega)) | (refine Cnd.tt ?_ ?_; focus (first | (apply decide_eq_true; omega) | (simp only [zq1, zq2, zq3, zq4, zq5, zq6, zq7, zq8, zq9, zq10, zq11, zq12] <;> omega) | rfl)) | (refine Cnd.ff ?_ ?_; focus (first | (apply decide_eq_false; omega) | (simp only [zq1, zq2, zq3, zq4, zq5, zq6, zq7, zq8, zq9, zq10, zq11, zq12] <;> omega) | rfl))))
          conv => whnf
          rw [decide_eq_false (fun h => hv (by rw [h]))] at hK
          exact hK
      · have hin : i = a.length := by have := of_decide_eq_false hge; omega
        repeat ((conv => whnf); (first | refine Cnd.yes ?_ | refine Cnd.no ?_ | refine And.intro rfl ?_ | refine And.intro (by omega) ?_ | (refine And.intro ?_ ?_; focus (simp only [IntKind.wrap_i64, IntKind.wrap_u64, IntKind.wrap_u32]; omega)) | (refine And.intro ?_ ?_; focus (simp only [zl1, zl2, zl3, zl4, zl5, zl6, zl7, zl8] <;> omega)) | (refine Cnd.tt ?_ ?_; focus (first | (apply decide_eq_true; omega) | (simp only [zq1, zq2, zq3, zq4, zq5, zq6, zq7, zq8, zq9, zq10, zq11, zq12] <;> omega) | rfl)) | (refine Cnd.ff ?_ ?_; focus (first | (apply decide_eq_false; omega) | (simp only [zq1, zq2, zq3, zq4, zq5, zq6, zq7, zq8, zq9, zq10, zq11, zq12] <;> omega) | rfl))))
        conv => whnf
        rw [decide_eq_true (show a = b from List.ext_getElem hl fun j h1 h2 => by
          have := hall j (by omega)
          simpa [List.getD, h1, h2] using this)] at hK
        exact hK
  · refine Cnd.tt (by simpa using fun h => hl (by omega)) ?_
    repeat ((conv => whnf); (first | refine Cnd.yes ?_ | refine Cnd.no ?_ | refine And.intro rfl ?_ | refine And.intro (by omega) ?_ | (refine And.intro ?_ ?_; focus (simp only [IntKind.wrap_i64, IntKind.wrap_u64, IntKind.wrap_u32]; omega)) | (refine And.intro ?_ ?_; focus (simp only [zl1, zl2, zl3, zl4, zl5, zl6, zl7, zl8] <;> omega))))
    conv => whnf
    rw [decide_eq_false (fun h => hl (by rw [h]))] at hK
    exact hK
def samepsS : Vc.Spec := fun args hp _ K => ∃ (a b : List Pte) (o o2 : Bool) (e e2 : TypeId), args = [.slc 0 5 0 a.length, .slc 1 5 0 b.length] ∧ hp = [.row o e pck (a.map prow), .row o2 e2 pck (b.map prow)] ∧ a.length ≤ 1000000 ∧ b.length ≤ 1000000 ∧ K (.v (.bool (decide (a = b)))) [.row o e pck (a.map prow), .row o2 e2 pck (b.map prow)]
theorem sameps_ok : SOK Tryd.prog 14 samepsS := by
  refine TOK.weaken (runF_eq G7_ok mixed at14.1 at14.2 pf14_eq) fun args hp M K h => ?_
  obtain ⟨a, b, o, o2, e, e2, rfl, rfl, h1, h2, h3⟩ := h
  exact sameps_run M K a b o o2 e e2 h1 h2 h3
end Go.Proofs.YtdmcdlgcmeledaaDoor
