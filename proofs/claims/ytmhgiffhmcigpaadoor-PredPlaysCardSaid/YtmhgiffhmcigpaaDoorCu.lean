/-
  The predictor: Next, History, Depth, and New that refuses; walked; their contracts.
-/
import Derived.Test.YtmhgiffhmcigpaaDoorCq
import Derived.Test.YtmhgiffhmcigpaaDoorCs
namespace Go.Proofs.YtmhgiffhmcigpaaDoor
open Go Go.Vc
set_option maxRecDepth 100000
set_option linter.unusedSimpArgs false
set_option linter.unusedVariables false
def prHp (o : Bool) (s : XS) : List Ent := [cellsB o 34 [.ptr 1 0 0 0, .ptr 3 0 0 0, .ptr 5 0 0 0], cellsB o 62 [.v (.int .i64 s.b), .slc 2 1 0 (2 ^ s.b), .v (.int .u32 s.h)], .row o 5 [.int .u8] (fill s.c (2 ^ s.b) (2 ^ s.b)),
  cellsB o 66 [.v (.int .i64 s.b), .slc 4 3 0 (2 ^ s.b)], .row o 72 [.int .u32, .int .u32, .bool] (tblOf (trow s.f) (2 ^ s.b)), cellsB o 68 [.slc 6 1 s.pre.length s.l.length], .row o 22 [.int .u32] ((s.pre ++ s.l ++ s.post).map wrow)]
noncomputable def specsX4 : Nat → Option Vc.Trans := tget [(10, frameT takenS), (13, frameT targetS)]
noncomputable def GX4 : Nat → Option Vc.Trans := tabG specsX4 (tget tab) 5
theorem GX4_ok : GOK Tryd.prog GX4 := tabG_ok (GOK.cons (frame_ok taken_ok) (GOK.cons (frame_ok target_ok) .nil)) tab_ok 5
def prnHp (o : Bool) (s : XS) : List Ent := [cellsB o 34 [.ptr 1 0 0 0, .ptr 3 0 0 0, .any], cellsB o 62 [.v (.int .i64 s.b), .slc 2 1 0 (2 ^ s.b), .v (.int .u32 s.h)], .row o 5 [.int .u8] (fill s.c (2 ^ s.b) (2 ^ s.b)),
  cellsB o 66 [.v (.int .i64 s.b), .slc 4 3 0 (2 ^ s.b)], .row o 72 [.int .u32, .int .u32, .bool] (tblOf (trow s.f) (2 ^ s.b))]
theorem next_runT (M : HL) (K : SV → List Ent → HL → Prop) (s : XS) (hs : s.OK) (pc : Nat) (h3 : pc < 4294967296) (hK : K (.v (.int .u32 (nextV s.c s.f s.b s.h pc))) (prHp true s) M) :
    runF GX4 pf14 [.ptr 0 0 0 0, .v (.int .u32 pc)] (prHp true s) M K := by
  unfold nextV at hK
  have hb := hs.b2
  have hh := hs.h
  repeat ((conv => whnf); (first | refine Cnd.yes ?_ | refine Cnd.no ?_ | refine And.intro rfl ?_ | refine And.intro (by omega) ?_ | (refine And.intro ?_ ?_; focus (simp only [IntKind.wrap_i64, IntKind.wrap_u64, IntKind.wrap_u32]; omega)) | (refine And.intro ?_ ?_; focus (simp only [zl1, zl2, zl3, zl4, zl5, zl6, zl7, zl8] <;> omega)) | (refine Cnd.tt ?_ ?_; focus (first | (apply decide_eq_true; omega) | (simp only [zq1, zq2, zq3, zq4, zq5, zq6, zq7, zq8, zq9, zq10, zq11, zq12] <;> omega) | rfl)) | (refine Cnd.ff ?_ ?_; focus (first | (apply decide_eq_false; omega) | (simp only [zq1, zq2, zq3, zq4, zq5, zq6, zq7, zq8, zq9, zq10, zq11, zq12] <;> omega) | rfl))))
  conv => whnf
  refine ⟨true, s.b, pc, s.f, rfl, rfl, hb, h3, ?_⟩
  by_cases h1 : (s.f (slot s.b pc)).is = true ∧ (s.f (slot s.b pc)).pc = pc
  · rw [if_pos h1, decide_eq_true h1]
    repeat ((conv => whnf); (first | refine Cnd.yes ?_ | refine Cnd.no ?_ | refine And.intro rfl ?_ | refine And.intro (by omega) ?_ | (refine And.intro ?_ ?_; focus (simp only [IntKind.wrap_i64, IntKind.wrap_u64, IntKind.wrap_u32]; omega)) | (refine And.intro ?_ ?_; focus (simp only [zl1, zl2, zl3, zl4, zl5, zl6, zl7, zl8] <;> omega)) | (refine Cnd.tt ?_ ?_; focus (first | (apply decide_eq_true; omega) | (simp only [zq1, zq2, zq3, zq4, zq5, zq6, zq7, zq8, zq9, zq10, zq11, zq12] <;> omega) | rfl)) | (refine Cnd.ff ?_ ?_; focus (first | (apply decide_eq_false; omega) | (simp only [zq1, zq2, zq3, zq4, zq5, zq6, zq7, zq8, zq9, zq10, zq11, zq12] <;> omega) | rfl))))
    conv => whnf
    refine ⟨true, s.b, s.h, pc, s.c, rfl, rfl, hb, hh, h3, ?_⟩
    by_cases h2 : s.c (atI s.b pc s.h) ≥ 2
    · rw [decide_eq_true h2]
      rw [if_pos ⟨h1.1, h1.2, h2⟩] at hK
      repeat ((conv => whnf); (first | refine Cnd.yes ?_ | refine Cnd.no ?_ | refine And.intro rfl ?_ | refine And.intro (by omega) ?_ | (refine And.intro ?_ ?_; focus (simp only [IntKind.wrap_i64, IntKind.wrap_u64, IntKind.wrap_u32]; omega)) | (refine And.intro ?_ ?_; focus (simp only [zl1, zl2, zl3, zl4, zl5, zl6, zl7, zl8] <;> omega)) | (refine Cnd.tt ?_ ?_; focus (first | (apply decide_eq_true; omega) | (simp only [zq1, zq2, zq3, zq4, zq5, zq6, zq7, zq8, zq9, zq10, zq11, zq12] <;> omega) | rfl)) | (refine Cnd.ff ?_ ?_; focus (first | (apply decide_eq_false; omega) | (simp only [zq1, zq2, zq3, zq4, zq5, zq6, zq7, zq8, zq9, zq10, zq11, zq12] <;> omega) | rfl))))
      conv => whnf
      exact hK
    · rw [decide_eq_false h2]
      rw [if_neg fun h => h2 h.2.2] at hK
      repeat ((conv => whnf); (first | refine Cnd.yes ?_ | refine Cnd.no ?_ | refine And.intro rfl ?_ | refine And.intro (by omega) ?_ | (refine And.intro ?_ ?_; focus (simp only [IntKind.wrap_i64, IntKind.wrap_u64, IntKind.wrap_u32]; omega)) | (refine And.intro ?_ ?_; focus (simp only [zl1, zl2, zl3, zl4, zl5, zl6, zl7, zl8] <;> omega)) | (refine Cnd.tt ?_ ?_; focus (first | (apply decide_eq_true; omega) | (simp only [zq1, zq2, zq3, zq4, zq5, zq6, zq7, zq8, zq9, zq10, zq11, zq12] <;> omega) | rfl)) | (refine Cnd.ff ?_ ?_; focus (first | (apply decide_eq_false; omega) | (simp only [zq1, zq2, zq3, zq4, zq5, zq6, zq7, zq8, zq9, zq10, zq11, zq12] <;> omega) | rfl))))
      conv => whnf
      exact hK
  · rw [if_neg h1, decide_eq_false h1]
    rw [if_neg fun h => h1 ⟨h.1, h.2.1⟩] at hK
    repeat ((conv => whnf); (first | refine Cnd.yes ?_ | refine Cnd.no ?_ | refine And.intro rfl ?_ | refine And.intro (by omega) ?_ | (refine And.intro ?_ ?_; focus (simp only [IntKind.wrap_i64, IntKind.wrap_u64, IntKind.wrap_u32]; omega)) | (refine And.intro ?_ ?_; focus (simp only [zl1, zl2, zl3, zl4, zl5, zl6, zl7, zl8] <;> omega)) | (refine Cnd.tt ?_ ?_; focus (first | (apply decide_eq_true; omega) | (simp only [zq1, zq2, zq3, zq4, zq5, zq6, zq7, zq8, zq9, zq10, zq11, zq12] <;> omega) | rfl)) | (refine Cnd.ff ?_ ?_; focus (first | (apply decide_eq_false; omega) | (simp only [zq1, zq2, zq3, zq4, zq5, zq6, zq7, zq8, zq9, zq10, zq11, zq12] <;> omega) | rfl))))
    conv => whnf
    exact hK
theorem hist_runT (M : HL) (K : SV → List Ent → HL → Prop) (b h : Nat) (c : Nat → Int) (hK : K (.v (.int .u32 h)) (tblHpO true b h c) M) :
    runF GX4 pf11 [.ptr 0 0 0 0] (tblHpO true b h c) M K := by
  repeat ((conv => whnf); (first | refine Cnd.yes ?_ | refine Cnd.no ?_ | refine And.intro rfl ?_ | refine And.intro (by omega) ?_ | (refine And.intro ?_ ?_; focus (simp only [IntKind.wrap_i64, IntKind.wrap_u64, IntKind.wrap_u32]; omega)) | (refine And.intro ?_ ?_; focus (simp only [zl1, zl2, zl3, zl4, zl5, zl6, zl7, zl8] <;> omega)) | (refine Cnd.tt ?_ ?_; focus (first | (apply decide_eq_true; omega) | (simp only [zq1, zq2, zq3, zq4, zq5, zq6, zq7, zq8, zq9, zq10, zq11, zq12] <;> omega) | rfl)) | (refine Cnd.ff ?_ ?_; focus (first | (apply decide_eq_false; omega) | (simp only [zq1, zq2, zq3, zq4, zq5, zq6, zq7, zq8, zq9, zq10, zq11, zq12] <;> omega) | rfl))))
  conv => whnf
  exact hK
theorem depth_runT (M : HL) (K : SV → List Ent → HL → Prop) (pre l post : List Nat) (hK : K (.v (.int .i64 l.length)) (rtHp true pre l post) M) :
    runF GX4 pf16 [.ptr 0 0 0 0] (rtHp true pre l post) M K := by
  repeat ((conv => whnf); (first | refine Cnd.yes ?_ | refine Cnd.no ?_ | refine And.intro rfl ?_ | refine And.intro (by omega) ?_ | (refine And.intro ?_ ?_; focus (simp only [IntKind.wrap_i64, IntKind.wrap_u64, IntKind.wrap_u32]; omega)) | (refine And.intro ?_ ?_; focus (simp only [zl1, zl2, zl3, zl4, zl5, zl6, zl7, zl8] <;> omega)) | (refine Cnd.tt ?_ ?_; focus (first | (apply decide_eq_true; omega) | (simp only [zq1, zq2, zq3, zq4, zq5, zq6, zq7, zq8, zq9, zq10, zq11, zq12] <;> omega) | rfl)) | (refine Cnd.ff ?_ ?_; focus (first | (apply decide_eq_false; omega) | (simp only [zq1, zq2, zq3, zq4, zq5, zq6, zq7, zq8, zq9, zq10, zq11, zq12] <;> omega) | rfl))))
  conv => whnf
  exact hK
theorem next_runF (M : HL) (K : SV → List Ent → HL → Prop) (s : XS) (hs : s.OK) (pc : Nat) (h3 : pc < 4294967296) (hK : K (.v (.int .u32 (nextV s.c s.f s.b s.h pc))) (prHp false s) M) :
    runF GX4 pf14 [.ptr 0 0 0 0, .v (.int .u32 pc)] (prHp false s) M K := by
  unfold nextV at hK
  have hb := hs.b2
  have hh := hs.h
  repeat ((conv => whnf); (first | refine Cnd.yes ?_ | refine Cnd.no ?_ | refine And.intro rfl ?_ | refine And.intro (by omega) ?_ | (refine And.intro ?_ ?_; focus (simp only [IntKind.wrap_i64, IntKind.wrap_u64, IntKind.wrap_u32]; omega)) | (refine And.intro ?_ ?_; focus (simp only [zl1, zl2, zl3, zl4, zl5, zl6, zl7, zl8] <;> omega)) | (refine Cnd.tt ?_ ?_; focus (first | (apply decide_eq_true; omega) | (simp only [zq1, zq2, zq3, zq4, zq5, zq6, zq7, zq8, zq9, zq10, zq11, zq12] <;> omega) | rfl)) | (refine Cnd.ff ?_ ?_; focus (first | (apply decide_eq_false; omega) | (simp only [zq1, zq2, zq3, zq4, zq5, zq6, zq7, zq8, zq9, zq10, zq11, zq12] <;> omega) | rfl))))
  conv => whnf
  refine ⟨false, s.b, pc, s.f, rfl, rfl, hb, h3, ?_⟩
  by_cases h1 : (s.f (slot s.b pc)).is = true ∧ (s.f (slot s.b pc)).pc = pc
  · rw [if_pos h1, decide_eq_true h1]
    repeat ((conv => whnf); (first | refine Cnd.yes ?_ | refine Cnd.no ?_ | refine And.intro rfl ?_ | refine And.intro (by omega) ?_ | (refine And.intro ?_ ?_; focus (simp only [IntKind.wrap_i64, IntKind.wrap_u64, IntKind.wrap_u32]; omega)) | (refine And.intro ?_ ?_; focus (simp only [zl1, zl2, zl3, zl4, zl5, zl6, zl7, zl8] <;> omega)) | (refine Cnd.tt ?_ ?_; focus (first | (apply decide_eq_true; omega) | (simp only [zq1, zq2, zq3, zq4, zq5, zq6, zq7, zq8, zq9, zq10, zq11, zq12] <;> omega) | rfl)) | (refine Cnd.ff ?_ ?_; focus (first | (apply decide_eq_false; omega) | (simp only [zq1, zq2, zq3, zq4, zq5, zq6, zq7, zq8, zq9, zq10, zq11, zq12] <;> omega) | rfl))))
    conv => whnf
    refine ⟨false, s.b, s.h, pc, s.c, rfl, rfl, hb, hh, h3, ?_⟩
    by_cases h2 : s.c (atI s.b pc s.h) ≥ 2
    · rw [decide_eq_true h2]
      rw [if_pos ⟨h1.1, h1.2, h2⟩] at hK
      repeat ((conv => whnf); (first | refine Cnd.yes ?_ | refine Cnd.no ?_ | refine And.intro rfl ?_ | refine And.intro (by omega) ?_ | (refine And.intro ?_ ?_; focus (simp only [IntKind.wrap_i64, IntKind.wrap_u64, IntKind.wrap_u32]; omega)) | (refine And.intro ?_ ?_; focus (simp only [zl1, zl2, zl3, zl4, zl5, zl6, zl7, zl8] <;> omega)) | (refine Cnd.tt ?_ ?_; focus (first | (apply decide_eq_true; omega) | (simp only [zq1, zq2, zq3, zq4, zq5, zq6, zq7, zq8, zq9, zq10, zq11, zq12] <;> omega) | rfl)) | (refine Cnd.ff ?_ ?_; focus (first | (apply decide_eq_false; omega) | (simp only [zq1, zq2, zq3, zq4, zq5, zq6, zq7, zq8, zq9, zq10, zq11, zq12] <;> omega) | rfl))))
      conv => whnf
      exact hK
    · rw [decide_eq_false h2]
      rw [if_neg fun h => h2 h.2.2] at hK
      repeat ((conv => whnf); (first | refine Cnd.yes ?_ | refine Cnd.no ?_ | refine And.intro rfl ?_ | refine And.intro (by omega) ?_ | (refine And.intro ?_ ?_; focus (simp only [IntKind.wrap_i64, IntKind.wrap_u64, IntKind.wrap_u32]; omega)) | (refine And.intro ?_ ?_; focus (simp only [zl1, zl2, zl3, zl4, zl5, zl6, zl7, zl8] <;> omega)) | (refine Cnd.tt ?_ ?_; focus (first | (apply decide_eq_true; omega) | (simp only [zq1, zq2, zq3, zq4, zq5, zq6, zq7, zq8, zq9, zq10, zq11, zq12] <;> omega) | rfl)) | (refine Cnd.ff ?_ ?_; focus (first | (apply decide_eq_false; omega) | (simp only [zq1, zq2, zq3, zq4, zq5, zq6, zq7, zq8, zq9, zq10, zq11, zq12] <;> omega) | rfl))))
      conv => whnf
      exact hK
  · rw [if_neg h1, decide_eq_false h1]
    rw [if_neg fun h => h1 ⟨h.1, h.2.1⟩] at hK
    repeat ((conv => whnf); (first | refine Cnd.yes ?_ | refine Cnd.no ?_ | refine And.intro rfl ?_ | refine And.intro (by omega) ?_ | (refine And.intro ?_ ?_; focus (simp only [IntKind.wrap_i64, IntKind.wrap_u64, IntKind.wrap_u32]; omega)) | (refine And.intro ?_ ?_; focus (simp only [zl1, zl2, zl3, zl4, zl5, zl6, zl7, zl8] <;> omega)) | (refine Cnd.tt ?_ ?_; focus (first | (apply decide_eq_true; omega) | (simp only [zq1, zq2, zq3, zq4, zq5, zq6, zq7, zq8, zq9, zq10, zq11, zq12] <;> omega) | rfl)) | (refine Cnd.ff ?_ ?_; focus (first | (apply decide_eq_false; omega) | (simp only [zq1, zq2, zq3, zq4, zq5, zq6, zq7, zq8, zq9, zq10, zq11, zq12] <;> omega) | rfl))))
    conv => whnf
    exact hK
theorem hist_runF (M : HL) (K : SV → List Ent → HL → Prop) (b h : Nat) (c : Nat → Int) (hK : K (.v (.int .u32 h)) (tblHpO false b h c) M) :
    runF GX4 pf11 [.ptr 0 0 0 0] (tblHpO false b h c) M K := by
  repeat ((conv => whnf); (first | refine Cnd.yes ?_ | refine Cnd.no ?_ | refine And.intro rfl ?_ | refine And.intro (by omega) ?_ | (refine And.intro ?_ ?_; focus (simp only [IntKind.wrap_i64, IntKind.wrap_u64, IntKind.wrap_u32]; omega)) | (refine And.intro ?_ ?_; focus (simp only [zl1, zl2, zl3, zl4, zl5, zl6, zl7, zl8] <;> omega)) | (refine Cnd.tt ?_ ?_; focus (first | (apply decide_eq_true; omega) | (simp only [zq1, zq2, zq3, zq4, zq5, zq6, zq7, zq8, zq9, zq10, zq11, zq12] <;> omega) | rfl)) | (refine Cnd.ff ?_ ?_; focus (first | (apply decide_eq_false; omega) | (simp only [zq1, zq2, zq3, zq4, zq5, zq6, zq7, zq8, zq9, zq10, zq11, zq12] <;> omega) | rfl))))
  conv => whnf
  exact hK
theorem depth_runF (M : HL) (K : SV → List Ent → HL → Prop) (pre l post : List Nat) (hK : K (.v (.int .i64 l.length)) (rtHp false pre l post) M) :
    runF GX4 pf16 [.ptr 0 0 0 0] (rtHp false pre l post) M K := by
  repeat ((conv => whnf); (first | refine Cnd.yes ?_ | refine Cnd.no ?_ | refine And.intro rfl ?_ | refine And.intro (by omega) ?_ | (refine And.intro ?_ ?_; focus (simp only [IntKind.wrap_i64, IntKind.wrap_u64, IntKind.wrap_u32]; omega)) | (refine And.intro ?_ ?_; focus (simp only [zl1, zl2, zl3, zl4, zl5, zl6, zl7, zl8] <;> omega)) | (refine Cnd.tt ?_ ?_; focus (first | (apply decide_eq_true; omega) | (simp only [zq1, zq2, zq3, zq4, zq5, zq6, zq7, zq8, zq9, zq10, zq11, zq12] <;> omega) | rfl)) | (refine Cnd.ff ?_ ?_; focus (first | (apply decide_eq_false; omega) | (simp only [zq1, zq2, zq3, zq4, zq5, zq6, zq7, zq8, zq9, zq10, zq11, zq12] <;> omega) | rfl))))
  conv => whnf
  exact hK
def nextS : Vc.Spec := fun args hp _ K => ∃ (o : Bool) (s : XS) (pc : Nat), args = [.ptr 0 0 0 0, .v (.int .u32 pc)] ∧ hp = prHp o s ∧ s.OK ∧ pc < 4294967296 ∧ K (.v (.int .u32 (nextV s.c s.f s.b s.h pc))) (prHp o s)
theorem next_ok : SOK Tryd.prog 14 nextS := by
  refine TOK.weaken (runF_eq GX4_ok mixed at14.1 at14.2 pf14_eq) fun args hp M K h => ?_
  obtain ⟨o, s, pc, rfl, rfl, h1, h2, h3⟩ := h
  cases o with
  | true => exact next_runT M K s h1 pc h2 h3
  | false => exact next_runF M K s h1 pc h2 h3
def histS : Vc.Spec := fun args hp _ K => ∃ (o : Bool) (b h : Nat) (c : Nat → Int), args = [.ptr 0 0 0 0] ∧ hp = tblHpO o b h c ∧ K (.v (.int .u32 h)) (tblHpO o b h c)
theorem hist_ok : SOK Tryd.prog 11 histS := by
  refine TOK.weaken (runF_eq GX4_ok mixed at11.1 at11.2 pf11_eq) fun args hp M K h => ?_
  obtain ⟨o, b, h, c, rfl, rfl, h3⟩ := h
  cases o with
  | true => exact hist_runT M K b h c h3
  | false => exact hist_runF M K b h c h3
def depthS : Vc.Spec := fun args hp _ K => ∃ (o : Bool) (pre l post : List Nat), args = [.ptr 0 0 0 0] ∧ hp = rtHp o pre l post ∧ K (.v (.int .i64 l.length)) (rtHp o pre l post)
theorem depth_ok : SOK Tryd.prog 16 depthS := by
  refine TOK.weaken (runF_eq GX4_ok mixed at16.1 at16.2 pf16_eq) fun args hp M K h => ?_
  obtain ⟨o, pre, l, post, rfl, rfl, h3⟩ := h
  cases o with
  | true => exact depth_runT M K pre l post h3
  | false => exact depth_runF M K pre l post h3
theorem newB_run (M : HL) (K : SV → List Ent → HL → Prop) (n sd : Int) (h : n < 1 ∨ 10 < n) (y : Value) (hy : mcell M ⟨0, 0, none⟩ = some y) (hK : K (.tup [.v (.pointer none), .v y]) [] M) :
    runF G0 pf8 [.v (.int .i64 n), .v (.int .u32 sd)] [] M K := by
  by_cases h1 : n < 1
  · repeat ((conv => whnf); (first | refine Cnd.yes ?_ | refine Cnd.no ?_ | refine And.intro rfl ?_ | refine And.intro (by omega) ?_ | (refine And.intro ?_ ?_; focus (simp only [IntKind.wrap_i64, IntKind.wrap_u64, IntKind.wrap_u32]; omega)) | (refine And.intro ?_ ?_; focus (simp only [zl1, zl2, zl3, zl4, zl5, zl6, zl7, zl8] <;> omega)) | (refine Cnd.tt ?_ ?_; focus (first | (apply decide_eq_true; omega) | (simp only [zq1, zq2, zq3, zq4, zq5, zq6, zq7, zq8, zq9, zq10, zq11, zq12] <;> omega) | rfl)) | (refine Cnd.ff ?_ ?_; focus (first | (apply decide_eq_false; omega) | (simp only [zq1, zq2, zq3, zq4, zq5, zq6, zq7, zq8, zq9, zq10, zq11, zq12] <;> omega) | rfl))))
    conv => whnf
    refine ⟨y, hy, ?_⟩
    repeat ((conv => whnf); (first | refine Cnd.yes ?_ | refine Cnd.no ?_ | refine And.intro rfl ?_ | refine And.intro (by omega) ?_ | (refine And.intro ?_ ?_; focus (simp only [IntKind.wrap_i64, IntKind.wrap_u64, IntKind.wrap_u32]; omega)) | (refine And.intro ?_ ?_; focus (simp only [zl1, zl2, zl3, zl4, zl5, zl6, zl7, zl8] <;> omega)) | (refine Cnd.tt ?_ ?_; focus (first | (apply decide_eq_true; omega) | (simp only [zq1, zq2, zq3, zq4, zq5, zq6, zq7, zq8, zq9, zq10, zq11, zq12] <;> omega) | rfl)) | (refine Cnd.ff ?_ ?_; focus (first | (apply decide_eq_false; omega) | (simp only [zq1, zq2, zq3, zq4, zq5, zq6, zq7, zq8, zq9, zq10, zq11, zq12] <;> omega) | rfl))))
    conv => whnf
    exact hK
  · repeat ((conv => whnf); (first | refine Cnd.yes ?_ | refine Cnd.no ?_ | refine And.intro rfl ?_ | refine And.intro (by omega) ?_ | (refine And.intro ?_ ?_; focus (simp only [IntKind.wrap_i64, IntKind.wrap_u64, IntKind.wrap_u32]; omega)) | (refine And.intro ?_ ?_; focus (simp only [zl1, zl2, zl3, zl4, zl5, zl6, zl7, zl8] <;> omega)) | (refine Cnd.tt ?_ ?_; focus (first | (apply decide_eq_true; omega) | (simp only [zq1, zq2, zq3, zq4, zq5, zq6, zq7, zq8, zq9, zq10, zq11, zq12] <;> omega) | rfl)) | (refine Cnd.ff ?_ ?_; focus (first | (apply decide_eq_false; omega) | (simp only [zq1, zq2, zq3, zq4, zq5, zq6, zq7, zq8, zq9, zq10, zq11, zq12] <;> omega) | rfl))))
    conv => whnf
    refine ⟨y, hy, ?_⟩
    repeat ((conv => whnf); (first | refine Cnd.yes ?_ | refine Cnd.no ?_ | refine And.intro rfl ?_ | refine And.intro (by omega) ?_ | (refine And.intro ?_ ?_; focus (simp only [IntKind.wrap_i64, IntKind.wrap_u64, IntKind.wrap_u32]; omega)) | (refine And.intro ?_ ?_; focus (simp only [zl1, zl2, zl3, zl4, zl5, zl6, zl7, zl8] <;> omega)) | (refine Cnd.tt ?_ ?_; focus (first | (apply decide_eq_true; omega) | (simp only [zq1, zq2, zq3, zq4, zq5, zq6, zq7, zq8, zq9, zq10, zq11, zq12] <;> omega) | rfl)) | (refine Cnd.ff ?_ ?_; focus (first | (apply decide_eq_false; omega) | (simp only [zq1, zq2, zq3, zq4, zq5, zq6, zq7, zq8, zq9, zq10, zq11, zq12] <;> omega) | rfl))))
    conv => whnf
    exact hK
def newBS : Vc.Spec := fun args hp M K => ∃ (n sd : Int) (y : Value), args = [.v (.int .i64 n), .v (.int .u32 sd)] ∧ hp = [] ∧ (n < 1 ∨ 10 < n) ∧ mcell M ⟨0, 0, none⟩ = some y ∧ K (.tup [.v (.pointer none), .v y]) []
theorem newB_ok : SOK Tryd.prog 8 newBS := by
  refine TOK.weaken (runF_eq G0_ok mixed at8.1 at8.2 pf8_eq) fun args hp M K h => ?_
  obtain ⟨n, sd, y, rfl, rfl, h1, h2, h3⟩ := h
  exact newB_run M K n sd h1 y h2 h3
end Go.Proofs.YtmhgiffhmcigpaaDoor
