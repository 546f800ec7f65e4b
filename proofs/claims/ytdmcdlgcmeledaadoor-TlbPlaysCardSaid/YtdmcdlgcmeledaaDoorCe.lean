/-
  The TLB: Flush of all, walked; its contract.
-/
import Derived.Test.YtdmcdlgcmeledaaDoorCd
namespace Go.Proofs.YtdmcdlgcmeledaaDoor
open Go Go.Vc
set_option maxRecDepth 100000
set_option linter.unusedSimpArgs false
set_option linter.unusedVariables false
def nHp : List Ent := [.cells 36 [.v (.slice none 0 0)]]
theorem goneN_run (M : HL) (K : SV → List Ent → HL → Prop) (p : Int) (y : Value) (hK : K (.v (.bool true)) nHp M) :
    runF G2 pf28 [.agg [.v (.int .u32 p), .rsl y], .ptr 0 0 0 0] nHp M fun v hp2 M2 => ∃ m v' hp', Wk (llen nHp) m [v] hp2 [v'] hp' (K v' hp' M2) := by
  repeat ((repeat ((conv => whnf); (first | refine Cnd.yes ?_ | refine Cnd.no ?_ | refine And.intro rfl ?_ | refine And.intro (by omega) ?_ | (refine And.intro ?_ ?_; focus (simp only [IntKind.wrap_i64, IntKind.wrap_u64, IntKind.wrap_u32]; omega)) | (refine And.intro ?_ ?_; focus (simp only [zl1, zl2, zl3, zl4, zl5, zl6, zl7, zl8] <;> omega))))); (conv => whnf); (first | (refine Cnd.tt ?_ ?_; focus (first | (apply decide_eq_true; omega) | (simp only [zq1, zq2, zq3, zq4, zq5, zq6, zq7, zq8, zq9, zq10, zq11, zq12]; omega) | rfl)) | (refine Cnd.ff ?_ ?_; focus (first | (apply decide_eq_false; omega) | (simp only [zq1, zq2, zq3, zq4, zq5, zq6, zq7, zq8, zq9, zq10, zq11, zq12]; omega) | rfl))))
  repeat ((conv => whnf); (first | refine Cnd.yes ?_ | refine Cnd.no ?_ | refine And.intro rfl ?_ | refine And.intro (by omega) ?_ | (refine And.intro ?_ ?_; focus (simp only [IntKind.wrap_i64, IntKind.wrap_u64, IntKind.wrap_u32]; omega)) | (refine And.intro ?_ ?_; focus (simp only [zl1, zl2, zl3, zl4, zl5, zl6, zl7, zl8] <;> omega))))
  conv => whnf
  refine ⟨[0], .v (.bool true), nHp, ?_⟩
  repeat ((conv => whnf); (first | refine Cnd.yes ?_ | refine Cnd.no ?_ | refine And.intro rfl ?_ | refine And.intro (by omega) ?_ | (refine And.intro ?_ ?_; focus (simp only [IntKind.wrap_i64, IntKind.wrap_u64, IntKind.wrap_u32]; omega)) | (refine And.intro ?_ ?_; focus (simp only [zl1, zl2, zl3, zl4, zl5, zl6, zl7, zl8] <;> omega))))
  conv => whnf
  exact hK
def goneNS : Vc.Spec := fun args hp _ K => ∃ (p : Int) (y : Value), args = [.agg [.v (.int .u32 p), .rsl y], .ptr 0 0 0 0] ∧ hp = nHp ∧ K (.v (.bool true)) nHp
theorem goneN_ok : SOK Tryd.prog 28 goneNS := by
  refine TOK.weaken (TOK.out (runF_eq G2_ok mixed at28.1 at28.2 pf28_eq)) fun args hp M K h => ?_
  obtain ⟨p, y, rfl, rfl, h2⟩ := h
  exact goneN_run M K p y h2
noncomputable def specs4 : Nat → Option Vc.Trans := tget [(28, frameT goneNS)]
noncomputable def G4 : Nat → Option Vc.Trans := tabG specs4 (tget tab) 5
theorem G4_ok : GOK Tryd.prog G4 := tabG_ok (GOK.cons (frame_ok goneN_ok) .nil) tab_ok 5
theorem goneAll (p : Int) : gone [] p = true := by simp [gone]
set_option maxHeartbeats 1000000 in
theorem flushN_run (M : HL) (K : SV → List Ent → HL → Prop) (n : Int) (l : List One) (J : List (List Value)) (hl : l.length ≤ 100) (hJ : ∀ r ∈ J, r.length = 2)
    (hK : ∀ J', (∀ r ∈ J', r.length = 2) → J'.length = l.length + J.length → K (.tup []) (tHp true n [] J') M) :
    runF G4 pf10 [.ptr 0 0 0 0, .v (.slice none 0 0)] (tHp true n l J) M fun v hp2 M2 => ∃ m v' hp', Wk (llen (tHp true n l J)) m [v] hp2 [v'] hp' (K v' hp' M2) := by
  repeat ((repeat ((conv => whnf); (first | refine Cnd.yes ?_ | refine Cnd.no ?_ | refine And.intro rfl ?_ | refine And.intro (by omega) ?_ | (refine And.intro ?_ ?_; focus (simp only [IntKind.wrap_i64, IntKind.wrap_u64, IntKind.wrap_u32]; omega)) | (refine And.intro ?_ ?_; focus (simp only [zl1, zl2, zl3, zl4, zl5, zl6, zl7, zl8] <;> omega))))); (conv => whnf); (first | (refine Cnd.tt ?_ ?_; focus (first | (apply decide_eq_true; omega) | (simp only [zq1, zq2, zq3, zq4, zq5, zq6, zq7, zq8, zq9, zq10, zq11, zq12]; omega) | rfl)) | (refine Cnd.ff ?_ ?_; focus (first | (apply decide_eq_false; omega) | (simp only [zq1, zq2, zq3, zq4, zq5, zq6, zq7, zq8, zq9, zq10, zq11, zq12]; omega) | rfl))))
  repeat ((conv => whnf); (first | refine Cnd.yes ?_ | refine Cnd.no ?_ | refine And.intro rfl ?_ | refine And.intro (by omega) ?_ | (refine And.intro ?_ ?_; focus (simp only [IntKind.wrap_i64, IntKind.wrap_u64, IntKind.wrap_u32]; omega)) | (refine And.intro ?_ ?_; focus (simp only [zl1, zl2, zl3, zl4, zl5, zl6, zl7, zl8] <;> omega))))
  conv => whnf
  refine ⟨InvS 19 (fun s : Nat => l.length - s) (fun s : Nat => s = 0) (fun s : Nat => [(0, .slc 1 2 0 l.length), (1, .fn (.func 28) [] [.ptr 2 0 0 0]), (6, .slc 1 2 0 l.length), (7, .v (.int .i64 l.length)), (8, .v (.int .i64 s))]) (fun s : Nat => tHp true n l J ++ nHp) M, ⟨(fun s : Nat => l.length - s) 0, [0, 1, 2], tmk 19 0 ((fun s : Nat => [(0, .slc 1 2 0 l.length), (1, .fn (.func 28) [] [.ptr 2 0 0 0]), (6, .slc 1 2 0 l.length), (7, .v (.int .i64 l.length)), (8, .v (.int .i64 s))]) 0), (fun s : Nat => tHp true n l J ++ nHp) 0, ?_⟩, ?_⟩
  · repeat ((conv => whnf); (first | refine Cnd.yes ?_ | refine Cnd.no ?_ | refine And.intro rfl ?_ | refine And.intro (by omega) ?_ | (refine And.intro ?_ ?_; focus (simp only [IntKind.wrap_i64, IntKind.wrap_u64, IntKind.wrap_u32]; omega)) | (refine And.intro ?_ ?_; focus (simp only [zl1, zl2, zl3, zl4, zl5, zl6, zl7, zl8] <;> omega))))
    conv => whnf
    exact ⟨0, rfl, rfl, rfl, (tmkK_eq _ _ _ _).mpr rfl, rfl⟩
  · rintro cnt tm hp M1 ⟨i, hC_, rfl, rfl, htm, hhp_⟩
    replace hC_ : i = 0 := hC_
    obtain hC_ := hC_
    replace htm : tmkK 19 0 [(0, .slc 1 2 0 l.length), (1, .fn (.func 28) [] [.ptr 2 0 0 0]), (6, .slc 1 2 0 l.length), (7, .v (.int .i64 l.length)), (8, .v (.int .i64 i))] (fun l => tm = l) := htm
    conv at htm => whnf
    subst htm
    replace hhp_ : hp = tHp true n l J ++ nHp := hhp_
    subst hhp_
    subst hC_
    repeat ((repeat ((conv => whnf); (first | refine Cnd.yes ?_ | refine Cnd.no ?_ | refine And.intro rfl ?_ | refine And.intro (by omega) ?_ | (refine And.intro ?_ ?_; focus (simp only [IntKind.wrap_i64, IntKind.wrap_u64, IntKind.wrap_u32]; omega)) | (refine And.intro ?_ ?_; focus (simp only [zl1, zl2, zl3, zl4, zl5, zl6, zl7, zl8] <;> omega))))); (conv => whnf); (first | (refine Cnd.tt ?_ ?_; focus (first | (apply decide_eq_true; omega) | (simp only [zq1, zq2, zq3, zq4, zq5, zq6, zq7, zq8, zq9, zq10, zq11, zq12]; omega) | rfl)) | (refine Cnd.ff ?_ ?_; focus (first | (apply decide_eq_false; omega) | (simp only [zq1, zq2, zq3, zq4, zq5, zq6, zq7, zq8, zq9, zq10, zq11, zq12]; omega) | rfl))))
    repeat ((conv => whnf); (first | refine Cnd.yes ?_ | refine Cnd.no ?_ | refine And.intro rfl ?_ | refine And.intro (by omega) ?_ | (refine And.intro ?_ ?_; focus (simp only [IntKind.wrap_i64, IntKind.wrap_u64, IntKind.wrap_u32]; omega)) | (refine And.intro ?_ ?_; focus (simp only [zl1, zl2, zl3, zl4, zl5, zl6, zl7, zl8] <;> omega))))
    conv => whnf
    refine Cnd.mk (fun hlt => ?_) fun hge => ?_
    · have hin : 0 < l.length := by have := of_decide_eq_true hlt; omega
      have hc := fun k => cell_mapJ orow l J default hin k
      have e0 : toI (cellAt (l.map orow ++ J) (0 + ((0 : Nat) : Int).toNat) 0) = (l.getD 0 default).p := by rw [hc]; rfl
      have e1 : cellAt (l.map orow ++ J) (0 + ((0 : Nat) : Int).toNat) (0 + 1) = (l.getD 0 default).y := by rw [hc]; rfl
      repeat ((repeat ((conv => whnf); (first | refine Cnd.yes ?_ | refine Cnd.no ?_ | refine And.intro rfl ?_ | refine And.intro (by omega) ?_ | (refine And.intro ?_ ?_; focus (simp only [IntKind.wrap_i64, IntKind.wrap_u64, IntKind.wrap_u32]; omega)) | (refine And.intro ?_ ?_; focus (simp only [zl1, zl2, zl3, zl4, zl5, zl6, zl7, zl8] <;> omega))))); (conv => whnf); (first | (refine Cnd.tt ?_ ?_; focus (first | (apply decide_eq_true; omega) | (simp only [zq1, zq2, zq3, zq4, zq5, zq6, zq7, zq8, zq9, zq10, zq11, zq12]; omega) | rfl)) | (refine Cnd.ff ?_ ?_; focus (first | (apply decide_eq_false; omega) | (simp only [zq1, zq2, zq3, zq4, zq5, zq6, zq7, zq8, zq9, zq10, zq11, zq12]; omega) | rfl))))
      repeat ((conv => whnf); (first | refine Cnd.yes ?_ | refine Cnd.no ?_ | refine And.intro rfl ?_ | refine And.intro (by omega) ?_ | (refine And.intro ?_ ?_; focus (simp only [IntKind.wrap_i64, IntKind.wrap_u64, IntKind.wrap_u32]; omega)) | (refine And.intro ?_ ?_; focus (simp only [zl1, zl2, zl3, zl4, zl5, zl6, zl7, zl8] <;> omega))))
      conv => whnf
      rw [e0, e1]
      refine ⟨_, _, rfl, rfl, ?_⟩
      repeat ((repeat ((conv => whnf); (first | refine Cnd.yes ?_ | refine Cnd.no ?_ | refine And.intro rfl ?_ | refine And.intro (by omega) ?_ | (refine And.intro ?_ ?_; focus (simp only [IntKind.wrap_i64, IntKind.wrap_u64, IntKind.wrap_u32]; omega)) | (refine And.intro ?_ ?_; focus (simp only [zl1, zl2, zl3, zl4, zl5, zl6, zl7, zl8] <;> omega))))); (conv => whnf); (first | (refine Cnd.tt ?_ ?_; focus (first | (apply decide_eq_true; omega) | (simp only [zq1, zq2, zq3, zq4, zq5, zq6, zq7, zq8, zq9, zq10, zq11, zq12]; omega) | rfl)) | (refine Cnd.ff ?_ ?_; focus (first | (apply decide_eq_false; omega) | (simp only [zq1, zq2, zq3, zq4, zq5, zq6, zq7, zq8, zq9, zq10, zq11, zq12]; omega) | rfl))))
      repeat ((conv => whnf); (first | refine Cnd.yes ?_ | refine Cnd.no ?_ | refine And.intro rfl ?_ | refine And.intro (by omega) ?_ | (refine And.intro ?_ ?_; focus (simp only [IntKind.wrap_i64, IntKind.wrap_u64, IntKind.wrap_u32]; omega)) | (refine And.intro ?_ ?_; focus (simp only [zl1, zl2, zl3, zl4, zl5, zl6, zl7, zl8] <;> omega))))
      conv => whnf
      refine ⟨InvS 42 (fun s : Nat × Nat × List (List Value) => l.length - s.2.1) (fun s : Nat × Nat × List (List Value) => s.1 = 0 ∧ DI [] l J 0 s.2.1 s.2.2) (fun s : Nat × Nat × List (List Value) => [(0, .slc 1 2 0 l.length), (1, .fn (.func 28) [] [.ptr 2 0 0 0]), (5, .v (.int .i64 s.1)), (6, .v (.int .i64 s.2.1))]) (fun s : Nat × Nat × List (List Value) => [.cells 60 [.v (.int .i64 n), .slc 1 2 0 l.length], .row true 68 ock s.2.2, .cells 36 [.v (.slice none 0 0)]]) M1, ⟨(fun s : Nat × Nat × List (List Value) => l.length - s.2.1) (0, 1, l.map orow ++ J), [0, 1, 2], tmk 42 0 ((fun s : Nat × Nat × List (List Value) => [(0, .slc 1 2 0 l.length), (1, .fn (.func 28) [] [.ptr 2 0 0 0]), (5, .v (.int .i64 s.1)), (6, .v (.int .i64 s.2.1))]) (0, 1, l.map orow ++ J)), (fun s : Nat × Nat × List (List Value) => [.cells 60 [.v (.int .i64 n), .slc 1 2 0 l.length], .row true 68 ock s.2.2, .cells 36 [.v (.slice none 0 0)]]) (0, 1, l.map orow ++ J), ?_⟩, ?_⟩
      · repeat ((conv => whnf); (first | refine Cnd.yes ?_ | refine Cnd.no ?_ | refine And.intro rfl ?_ | refine And.intro (by omega) ?_ | (refine And.intro ?_ ?_; focus (simp only [IntKind.wrap_i64, IntKind.wrap_u64, IntKind.wrap_u32]; omega)) | (refine And.intro ?_ ?_; focus (simp only [zl1, zl2, zl3, zl4, zl5, zl6, zl7, zl8] <;> omega))))
        conv => whnf
        exact ⟨(0, 1, l.map orow ++ J), ⟨rfl, DI.start hJ hin (fun j hj => by omega) (goneAll _)⟩, rfl, rfl, (tmkK_eq _ _ _ _).mpr rfl, rfl⟩
      · rintro cnt tm hp M1 ⟨⟨i,j,R⟩, hC_, rfl, rfl, htm, hhp_⟩
        replace hC_ : i = 0 ∧ DI [] l J 0 j R := hC_
        obtain ⟨hi0, hD⟩ := hC_
        replace htm : tmkK 42 0 [(0, .slc 1 2 0 l.length), (1, .fn (.func 28) [] [.ptr 2 0 0 0]), (5, .v (.int .i64 i)), (6, .v (.int .i64 j))] (fun l => tm = l) := htm
        conv at htm => whnf
        subst htm
        replace hhp_ : hp = [.cells 60 [.v (.int .i64 n), .slc 1 2 0 l.length], .row true 68 ock R, .cells 36 [.v (.slice none 0 0)]] := hhp_
        subst hhp_
        subst hi0
        have hD1 := hD.1
        have hD2 := hD.2.1
        have hD3 := hD.2.2.1
        repeat ((repeat ((conv => whnf); (first | refine Cnd.yes ?_ | refine Cnd.no ?_ | refine And.intro rfl ?_ | refine And.intro (by omega) ?_ | (refine And.intro ?_ ?_; focus (simp only [IntKind.wrap_i64, IntKind.wrap_u64, IntKind.wrap_u32]; omega)) | (refine And.intro ?_ ?_; focus (simp only [zl1, zl2, zl3, zl4, zl5, zl6, zl7, zl8] <;> omega))))); (conv => whnf); (first | (refine Cnd.tt ?_ ?_; focus (first | (apply decide_eq_true; omega) | (simp only [zq1, zq2, zq3, zq4, zq5, zq6, zq7, zq8, zq9, zq10, zq11, zq12]; omega) | rfl)) | (refine Cnd.ff ?_ ?_; focus (first | (apply decide_eq_false; omega) | (simp only [zq1, zq2, zq3, zq4, zq5, zq6, zq7, zq8, zq9, zq10, zq11, zq12]; omega) | rfl))))
        repeat ((conv => whnf); (first | refine Cnd.yes ?_ | refine Cnd.no ?_ | refine And.intro rfl ?_ | refine And.intro (by omega) ?_ | (refine And.intro ?_ ?_; focus (simp only [IntKind.wrap_i64, IntKind.wrap_u64, IntKind.wrap_u32]; omega)) | (refine And.intro ?_ ?_; focus (simp only [zl1, zl2, zl3, zl4, zl5, zl6, zl7, zl8] <;> omega))))
        conv => whnf
        refine Cnd.mk (fun hlt => ?_) fun hge => ?_
        · have hjn : j < l.length := by have := of_decide_eq_true hlt; omega
          have e0 : toI (cellAt R (0 + (j : Int).toNat) 0) = (l.getD j default).p := by rw [hD.cell hjn]; rfl
          have e1 : cellAt R (0 + (j : Int).toNat) (0 + 1) = (l.getD j default).y := by rw [hD.cell hjn]; rfl
          repeat ((repeat ((conv => whnf); (first | refine Cnd.yes ?_ | refine Cnd.no ?_ | refine And.intro rfl ?_ | refine And.intro (by omega) ?_ | (refine And.intro ?_ ?_; focus (simp only [IntKind.wrap_i64, IntKind.wrap_u64, IntKind.wrap_u32]; omega)) | (refine And.intro ?_ ?_; focus (simp only [zl1, zl2, zl3, zl4, zl5, zl6, zl7, zl8] <;> omega))))); (conv => whnf); (first | (refine Cnd.tt ?_ ?_; focus (first | (apply decide_eq_true; omega) | (simp only [zq1, zq2, zq3, zq4, zq5, zq6, zq7, zq8, zq9, zq10, zq11, zq12]; omega) | rfl)) | (refine Cnd.ff ?_ ?_; focus (first | (apply decide_eq_false; omega) | (simp only [zq1, zq2, zq3, zq4, zq5, zq6, zq7, zq8, zq9, zq10, zq11, zq12]; omega) | rfl))))
          repeat ((conv => whnf); (first | refine Cnd.yes ?_ | refine Cnd.no ?_ | refine And.intro rfl ?_ | refine And.intro (by omega) ?_ | (refine And.intro ?_ ?_; focus (simp only [IntKind.wrap_i64, IntKind.wrap_u64, IntKind.wrap_u32]; omega)) | (refine And.intro ?_ ?_; focus (simp only [zl1, zl2, zl3, zl4, zl5, zl6, zl7, zl8] <;> omega))))
          conv => whnf
          rw [e0, e1]
          repeat ((repeat ((conv => whnf); (first | refine Cnd.yes ?_ | refine Cnd.no ?_ | refine And.intro rfl ?_ | refine And.intro (by omega) ?_ | (refine And.intro ?_ ?_; focus (simp only [IntKind.wrap_i64, IntKind.wrap_u64, IntKind.wrap_u32]; omega)) | (refine And.intro ?_ ?_; focus (simp only [zl1, zl2, zl3, zl4, zl5, zl6, zl7, zl8] <;> omega))))); (conv => whnf); (first | (refine Cnd.tt ?_ ?_; focus (first | (apply decide_eq_true; omega) | (simp only [zq1, zq2, zq3, zq4, zq5, zq6, zq7, zq8, zq9, zq10, zq11, zq12]; omega) | rfl)) | (refine Cnd.ff ?_ ?_; focus (first | (apply decide_eq_false; omega) | (simp only [zq1, zq2, zq3, zq4, zq5, zq6, zq7, zq8, zq9, zq10, zq11, zq12]; omega) | rfl))))
          repeat ((conv => whnf); (first | refine Cnd.yes ?_ | refine Cnd.no ?_ | refine And.intro rfl ?_ | refine And.intro (by omega) ?_ | (refine And.intro ?_ ?_; focus (simp only [IntKind.wrap_i64, IntKind.wrap_u64, IntKind.wrap_u32]; omega)) | (refine And.intro ?_ ?_; focus (simp only [zl1, zl2, zl3, zl4, zl5, zl6, zl7, zl8] <;> omega))))
          conv => whnf
          refine ⟨_, _, rfl, rfl, ?_⟩
          repeat ((repeat ((conv => whnf); (first | refine Cnd.yes ?_ | refine Cnd.no ?_ | refine And.intro rfl ?_ | refine And.intro (by omega) ?_ | (refine And.intro ?_ ?_; focus (simp only [IntKind.wrap_i64, IntKind.wrap_u64, IntKind.wrap_u32]; omega)) | (refine And.intro ?_ ?_; focus (simp only [zl1, zl2, zl3, zl4, zl5, zl6, zl7, zl8] <;> omega))))); (conv => whnf); (first | (refine Cnd.tt ?_ ?_; focus (first | (apply decide_eq_true; omega) | (simp only [zq1, zq2, zq3, zq4, zq5, zq6, zq7, zq8, zq9, zq10, zq11, zq12]; omega) | rfl)) | (refine Cnd.ff ?_ ?_; focus (first | (apply decide_eq_false; omega) | (simp only [zq1, zq2, zq3, zq4, zq5, zq6, zq7, zq8, zq9, zq10, zq11, zq12]; omega) | rfl))))
          repeat ((conv => whnf); (first | refine Cnd.yes ?_ | refine Cnd.no ?_ | refine And.intro rfl ?_ | refine And.intro (by omega) ?_ | (refine And.intro ?_ ?_; focus (simp only [IntKind.wrap_i64, IntKind.wrap_u64, IntKind.wrap_u32]; omega)) | (refine And.intro ?_ ?_; focus (simp only [zl1, zl2, zl3, zl4, zl5, zl6, zl7, zl8] <;> omega))))
          conv => whnf
          (refine ⟨(fun s : Nat × Nat × List (List Value) => l.length - s.2.1) ((0, j + 1, R)), [0, 1, 2], tmk 42 0 ((fun s : Nat × Nat × List (List Value) => [(0, .slc 1 2 0 l.length), (1, .fn (.func 28) [] [.ptr 2 0 0 0]), (5, .v (.int .i64 s.1)), (6, .v (.int .i64 s.2.1))]) ((0, j + 1, R))), (fun s : Nat × Nat × List (List Value) => [.cells 60 [.v (.int .i64 n), .slc 1 2 0 l.length], .row true 68 ock s.2.2, .cells 36 [.v (.slice none 0 0)]]) ((0, j + 1, R)), ?_, ?_⟩; focus (first | (simp only []; omega) | omega))
          repeat ((conv => whnf); (first | refine Cnd.yes ?_ | refine Cnd.no ?_ | refine And.intro rfl ?_ | refine And.intro (by omega) ?_ | (refine And.intro ?_ ?_; focus (simp only [IntKind.wrap_i64, IntKind.wrap_u64, IntKind.wrap_u32]; omega)) | (refine And.intro ?_ ?_; focus (simp only [zl1, zl2, zl3, zl4, zl5, zl6, zl7, zl8] <;> omega))))
          conv => whnf
          exact ⟨(0, j + 1, R), ⟨rfl, hD.skip hjn (goneAll _)⟩, rfl, rfl, (tmkK_eq _ _ _ _).mpr rfl, rfl⟩
        · have hjn : j = l.length := by have := of_decide_eq_false hge; omega
          subst hjn
          obtain ⟨hf, J', hR, hJ', hJl⟩ := hD.fin
          have hf0 : l.filter (keep []) = [] := List.eq_nil_of_length_eq_zero hf
          rw [hf0] at hR
          repeat ((repeat ((conv => whnf); (first | refine Cnd.yes ?_ | refine Cnd.no ?_ | refine And.intro rfl ?_ | refine And.intro (by omega) ?_ | (refine And.intro ?_ ?_; focus (simp only [IntKind.wrap_i64, IntKind.wrap_u64, IntKind.wrap_u32]; omega)) | (refine And.intro ?_ ?_; focus (simp only [zl1, zl2, zl3, zl4, zl5, zl6, zl7, zl8] <;> omega))))); (conv => whnf); (first | (refine Cnd.tt ?_ ?_; focus (first | (apply decide_eq_true; omega) | (simp only [zq1, zq2, zq3, zq4, zq5, zq6, zq7, zq8, zq9, zq10, zq11, zq12]; omega) | rfl)) | (refine Cnd.ff ?_ ?_; focus (first | (apply decide_eq_false; omega) | (simp only [zq1, zq2, zq3, zq4, zq5, zq6, zq7, zq8, zq9, zq10, zq11, zq12]; omega) | rfl))))
          repeat ((conv => whnf); (first | refine Cnd.yes ?_ | refine Cnd.no ?_ | refine And.intro rfl ?_ | refine And.intro (by omega) ?_ | (refine And.intro ?_ ?_; focus (simp only [IntKind.wrap_i64, IntKind.wrap_u64, IntKind.wrap_u32]; omega)) | (refine And.intro ?_ ?_; focus (simp only [zl1, zl2, zl3, zl4, zl5, zl6, zl7, zl8] <;> omega))))
          conv => whnf
          refine ⟨[0, 1], .tup [], tHp true n [] J', ?_⟩
          repeat ((conv => whnf); (first | refine Cnd.yes ?_ | refine Cnd.no ?_ | refine And.intro rfl ?_ | refine And.intro (by omega) ?_ | (refine And.intro ?_ ?_; focus (simp only [IntKind.wrap_i64, IntKind.wrap_u64, IntKind.wrap_u32]; omega)) | (refine And.intro ?_ ?_; focus (simp only [zl1, zl2, zl3, zl4, zl5, zl6, zl7, zl8] <;> omega))))
          conv => whnf
          refine ⟨hR, ?_⟩
          repeat ((conv => whnf); (first | refine Cnd.yes ?_ | refine Cnd.no ?_ | refine And.intro rfl ?_ | refine And.intro (by omega) ?_ | (refine And.intro ?_ ?_; focus (simp only [IntKind.wrap_i64, IntKind.wrap_u64, IntKind.wrap_u32]; omega)) | (refine And.intro ?_ ?_; focus (simp only [zl1, zl2, zl3, zl4, zl5, zl6, zl7, zl8] <;> omega))))
          conv => whnf
          exact hK J' hJ' (by omega)
    · have hin : l = [] := List.eq_nil_of_length_eq_zero (by have := of_decide_eq_false hge; omega)
      subst hin
      repeat ((repeat ((conv => whnf); (first | refine Cnd.yes ?_ | refine Cnd.no ?_ | refine And.intro rfl ?_ | refine And.intro (by omega) ?_ | (refine And.intro ?_ ?_; focus (simp only [IntKind.wrap_i64, IntKind.wrap_u64, IntKind.wrap_u32]; omega)) | (refine And.intro ?_ ?_; focus (simp only [zl1, zl2, zl3, zl4, zl5, zl6, zl7, zl8] <;> omega))))); (conv => whnf); (first | (refine Cnd.tt ?_ ?_; focus (first | (apply decide_eq_true; omega) | (simp only [zq1, zq2, zq3, zq4, zq5, zq6, zq7, zq8, zq9, zq10, zq11, zq12]; omega) | rfl)) | (refine Cnd.ff ?_ ?_; focus (first | (apply decide_eq_false; omega) | (simp only [zq1, zq2, zq3, zq4, zq5, zq6, zq7, zq8, zq9, zq10, zq11, zq12]; omega) | rfl))))
      repeat ((conv => whnf); (first | refine Cnd.yes ?_ | refine Cnd.no ?_ | refine And.intro rfl ?_ | refine And.intro (by omega) ?_ | (refine And.intro ?_ ?_; focus (simp only [IntKind.wrap_i64, IntKind.wrap_u64, IntKind.wrap_u32]; omega)) | (refine And.intro ?_ ?_; focus (simp only [zl1, zl2, zl3, zl4, zl5, zl6, zl7, zl8] <;> omega))))
      conv => whnf
      refine ⟨[0, 1], .tup [], tHp true n [] J, ?_⟩
      repeat ((conv => whnf); (first | refine Cnd.yes ?_ | refine Cnd.no ?_ | refine And.intro rfl ?_ | refine And.intro (by omega) ?_ | (refine And.intro ?_ ?_; focus (simp only [IntKind.wrap_i64, IntKind.wrap_u64, IntKind.wrap_u32]; omega)) | (refine And.intro ?_ ?_; focus (simp only [zl1, zl2, zl3, zl4, zl5, zl6, zl7, zl8] <;> omega))))
      conv => whnf
      exact hK J hJ (by simp)
def flushNS : Vc.Spec := fun args hp M K => ∃ (n : Int) (l : List One) (J : List (List Value)), args = [.ptr 0 0 0 0, .v (.slice none 0 0)] ∧ hp = tHp true n l J ∧ l.length ≤ 100 ∧ (∀ r ∈ J, r.length = 2) ∧
    ∀ J', (∀ r ∈ J', r.length = 2) → J'.length = l.length + J.length → K (.tup []) (tHp true n [] J')
theorem flushN_ok : SOK Tryd.prog 10 flushNS := by
  refine TOK.weaken (TOK.out (runF_eq G4_ok mixed at10.1 at10.2 pf10_eq)) fun args hp M K h => ?_
  obtain ⟨n, l, J, rfl, rfl, h1, h2, h4⟩ := h
  exact flushN_run M K n l J h1 h2 h4
end Go.Proofs.YtdmcdlgcmeledaaDoor
