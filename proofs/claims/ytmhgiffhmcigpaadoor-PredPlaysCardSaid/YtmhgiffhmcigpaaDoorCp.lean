/-
  The document's predictor: Bits, counter, place, Taken, Target, Next, walked; their contracts.
-/
import Derived.Test.YtmhgiffhmcigpaaDoorCn
namespace Go.Proofs.YtmhgiffhmcigpaaDoor
open Go Go.Vc
set_option maxRecDepth 100000
set_option linter.unusedSimpArgs false
set_option linter.unusedVariables false
/-- The document's predictor. -/
structure XS where
  b : Nat
  h : Nat
  c : Nat → Int
  f : Nat → Tg
  pre : List Nat
  l : List Nat
  post : List Nat
structure XS.OK (s : XS) : Prop where
  b1 : 1 ≤ s.b
  b2 : s.b ≤ 10
  h : s.h < 2 ^ s.b
  c : ∀ i, 0 ≤ s.c i ∧ s.c i ≤ 3
  l : s.l.length ≤ 8
def cRows (c : Nat → Int) (n : Nat) : List (List Value) := tblOf (fun j => [.int .i64 (c j)]) n
def pRows (f : Nat → Tg) (n : Nat) : List (List Value) := tblOf (fun j => [.int .u32 (f j).pc]) n
def tRows (f : Nat → Tg) (n : Nat) : List (List Value) := tblOf (fun j => [.int .u32 (f j).to]) n
def iRows (f : Nat → Tg) (n : Nat) : List (List Value) := tblOf (fun j => [.bool (f j).is]) n
def xHp (o : Bool) (s : XS) : List Ent :=
  [cellsB o 58 [.v (.int .i64 s.b), .slc 1 1 0 (2 ^ s.b), .v (.int .u32 s.h), .slc 2 1 0 (2 ^ s.b), .slc 3 1 0 (2 ^ s.b), .slc 4 1 0 (2 ^ s.b), .slc 5 1 s.pre.length s.l.length],
   .row o 3 [.int .i64] (cRows s.c (2 ^ s.b)), .row o 22 [.int .u32] (pRows s.f (2 ^ s.b)), .row o 22 [.int .u32] (tRows s.f (2 ^ s.b)), .row o 4 [.bool] (iRows s.f (2 ^ s.b)), .row o 22 [.int .u32] ((s.pre ++ s.l ++ s.post).map wrow)]
theorem xbits_run (M : HL) (K : SV → List Ent → HL → Prop) (x b : Nat) (hx : x < 4294967296) (h1 : 1 ≤ b ∧ b ≤ 10) (hK : K (.v (.int .u32 (x % 2 ^ b : Nat))) [] M) :
    runF G0 pf34 [.v (.int .u32 x), .v (.int .i64 0), .v (.int .i64 b)] [] M K := by
  have hp : 2 ^ b ≤ 2 ^ 10 := Nat.pow_le_pow_right (by omega) h1.2
  have hp0 : 0 < 2 ^ b := Nat.pow_pos (by omega)
  have e2 : IntKind.u32.wrap (((2 ^ b : Nat) : Int) - 1) = ((2 ^ b - 1 : Nat) : Int) := by rw [IntKind.wrap_u32]; omega
  have e3 : (x : Int).fdiv (2 ^ min (IntKind.u64.wrap 0).toNat IntKind.u32.bits) = x := by rw [show IntKind.u64.wrap 0 = 0 from rfl]; simp
  have e4 : IntKind.u64.wrap (b : Int) = b := by rw [IntKind.wrap_u64]; omega
  repeat ((conv => whnf); (first | refine Cnd.yes ?_ | refine Cnd.no ?_ | refine And.intro rfl ?_ | refine And.intro (by omega) ?_ | (refine And.intro ?_ ?_; focus (simp only [IntKind.wrap_i64, IntKind.wrap_u64, IntKind.wrap_u32]; omega)) | (refine And.intro ?_ ?_; focus (simp only [zl1, zl2, zl3, zl4, zl5, zl6, zl7, zl8] <;> omega)) | (refine Cnd.tt ?_ ?_; focus (first | (apply decide_eq_true; omega) | (simp only [zq1, zq2, zq3, zq4, zq5, zq6, zq7, zq8, zq9, zq10, zq11, zq12] <;> omega) | rfl)) | (refine Cnd.ff ?_ ?_; focus (first | (apply decide_eq_false; omega) | (simp only [zq1, zq2, zq3, zq4, zq5, zq6, zq7, zq8, zq9, zq10, zq11, zq12] <;> omega) | rfl))))
  conv => whnf
  rw [e3, e4, shl32 (by omega), e2, and32 hx (by omega)]
  exact hK
def xbitsS : Vc.Spec := fun args hp _ K => ∃ x b : Nat, args = [.v (.int .u32 x), .v (.int .i64 0), .v (.int .i64 b)] ∧ hp = [] ∧ x < 4294967296 ∧ (1 ≤ b ∧ b ≤ 10) ∧ K (.v (.int .u32 (x % 2 ^ b : Nat))) []
theorem xbits_ok : SOK Tryd.prog 34 xbitsS := by
  refine TOK.weaken (runF_eq G0_ok mixed at34.1 at34.2 pf34_eq) fun args hp M K h => ?_
  obtain ⟨x, b, rfl, rfl, h1, h2, h3⟩ := h
  exact xbits_run M K x b h1 h2 h3
noncomputable def specsX1 : Nat → Option Vc.Trans := tget [(34, frameT xbitsS)]
noncomputable def GX1 : Nat → Option Vc.Trans := tabG specsX1 (tget tab) 5
theorem GX1_ok : GOK Tryd.prog GX1 := tabG_ok (GOK.cons (frame_ok xbits_ok) .nil) tab_ok 5
theorem xcnt_runT (M : HL) (K : SV → List Ent → HL → Prop) (s : XS) (hs : s.OK) (pc : Nat) (h3 : pc < 4294967296) (hK : K (.v (.int .i64 (atI s.b pc s.h : Nat))) (xHp true s) M) :
    runF GX1 pf33 [.ptr 0 0 0 0, .v (.int .u32 pc)] (xHp true s) M K := by
  have h1 := hs.b1
  have h2 := hs.b2
  have hh := hs.h
  have hp : 2 ^ s.b ≤ 2 ^ 10 := Nat.pow_le_pow_right (by omega) hs.b2
  have e1 : IntKind.u32.wrap ((pc : Int).tdiv 4) = ((pc / 4 : Nat) : Int) := by rw [Int.tdiv_eq_ediv_of_nonneg (by omega), IntKind.wrap_u32]; omega
  have hx : (pc / 4) ^^^ s.h < 4294967296 := Nat.xor_lt_two_pow (n := 32) (by omega) (by omega)
  have ha : atI s.b pc s.h < 2 ^ s.b := Nat.mod_lt _ (Nat.pow_pos (by omega))
  have e2 : IntKind.i64.wrap (atI s.b pc s.h : Nat) = (atI s.b pc s.h : Nat) := by rw [IntKind.wrap_i64]; omega
  repeat ((conv => whnf); (first | refine Cnd.yes ?_ | refine Cnd.no ?_ | refine And.intro rfl ?_ | refine And.intro (by omega) ?_ | (refine And.intro ?_ ?_; focus (simp only [IntKind.wrap_i64, IntKind.wrap_u64, IntKind.wrap_u32]; omega)) | (refine And.intro ?_ ?_; focus (simp only [zl1, zl2, zl3, zl4, zl5, zl6, zl7, zl8] <;> omega)) | (refine Cnd.tt ?_ ?_; focus (first | (apply decide_eq_true; omega) | (simp only [zq1, zq2, zq3, zq4, zq5, zq6, zq7, zq8, zq9, zq10, zq11, zq12] <;> omega) | rfl)) | (refine Cnd.ff ?_ ?_; focus (first | (apply decide_eq_false; omega) | (simp only [zq1, zq2, zq3, zq4, zq5, zq6, zq7, zq8, zq9, zq10, zq11, zq12] <;> omega) | rfl))))
  conv => whnf
  rw [e1, xor32 (by omega) (by omega)]
  intro Mr hMr
  repeat ((conv => whnf); (first | refine Cnd.yes ?_ | refine Cnd.no ?_ | refine And.intro rfl ?_ | refine And.intro (by omega) ?_ | (refine And.intro ?_ ?_; focus (simp only [IntKind.wrap_i64, IntKind.wrap_u64, IntKind.wrap_u32]; omega)) | (refine And.intro ?_ ?_; focus (simp only [zl1, zl2, zl3, zl4, zl5, zl6, zl7, zl8] <;> omega)) | (refine Cnd.tt ?_ ?_; focus (first | (apply decide_eq_true; omega) | (simp only [zq1, zq2, zq3, zq4, zq5, zq6, zq7, zq8, zq9, zq10, zq11, zq12] <;> omega) | rfl)) | (refine Cnd.ff ?_ ?_; focus (first | (apply decide_eq_false; omega) | (simp only [zq1, zq2, zq3, zq4, zq5, zq6, zq7, zq8, zq9, zq10, zq11, zq12] <;> omega) | rfl))))
  conv => whnf
  refine ⟨_, _, rfl, rfl, hx, ⟨h1, h2⟩, ?_⟩
  repeat ((conv => whnf); (first | refine Cnd.yes ?_ | refine Cnd.no ?_ | refine And.intro rfl ?_ | refine And.intro (by omega) ?_ | (refine And.intro ?_ ?_; focus (simp only [IntKind.wrap_i64, IntKind.wrap_u64, IntKind.wrap_u32]; omega)) | (refine And.intro ?_ ?_; focus (simp only [zl1, zl2, zl3, zl4, zl5, zl6, zl7, zl8] <;> omega)) | (refine Cnd.tt ?_ ?_; focus (first | (apply decide_eq_true; omega) | (simp only [zq1, zq2, zq3, zq4, zq5, zq6, zq7, zq8, zq9, zq10, zq11, zq12] <;> omega) | rfl)) | (refine Cnd.ff ?_ ?_; focus (first | (apply decide_eq_false; omega) | (simp only [zq1, zq2, zq3, zq4, zq5, zq6, zq7, zq8, zq9, zq10, zq11, zq12] <;> omega) | rfl))))
  conv => whnf
  rw [show ((pc / 4) ^^^ s.h) % 2 ^ s.b = atI s.b pc s.h from rfl, e2]
  exact hK
theorem xplace_runT (M : HL) (K : SV → List Ent → HL → Prop) (s : XS) (hs : s.OK) (pc : Nat) (h3 : pc < 4294967296) (hK : K (.v (.int .i64 (slot s.b pc : Nat))) (xHp true s) M) :
    runF GX1 pf35 [.ptr 0 0 0 0, .v (.int .u32 pc)] (xHp true s) M K := by
  have h1 := hs.b1
  have h2 := hs.b2
  have hp : 2 ^ s.b ≤ 2 ^ 10 := Nat.pow_le_pow_right (by omega) hs.b2
  have e1 : IntKind.u32.wrap ((pc : Int).tdiv 4) = ((pc / 4 : Nat) : Int) := by rw [Int.tdiv_eq_ediv_of_nonneg (by omega), IntKind.wrap_u32]; omega
  have ha : slot s.b pc < 2 ^ s.b := Nat.mod_lt _ (Nat.pow_pos (by omega))
  have e2 : IntKind.i64.wrap (slot s.b pc : Nat) = (slot s.b pc : Nat) := by rw [IntKind.wrap_i64]; omega
  repeat ((conv => whnf); (first | refine Cnd.yes ?_ | refine Cnd.no ?_ | refine And.intro rfl ?_ | refine And.intro (by omega) ?_ | (refine And.intro ?_ ?_; focus (simp only [IntKind.wrap_i64, IntKind.wrap_u64, IntKind.wrap_u32]; omega)) | (refine And.intro ?_ ?_; focus (simp only [zl1, zl2, zl3, zl4, zl5, zl6, zl7, zl8] <;> omega)) | (refine Cnd.tt ?_ ?_; focus (first | (apply decide_eq_true; omega) | (simp only [zq1, zq2, zq3, zq4, zq5, zq6, zq7, zq8, zq9, zq10, zq11, zq12] <;> omega) | rfl)) | (refine Cnd.ff ?_ ?_; focus (first | (apply decide_eq_false; omega) | (simp only [zq1, zq2, zq3, zq4, zq5, zq6, zq7, zq8, zq9, zq10, zq11, zq12] <;> omega) | rfl))))
  conv => whnf
  rw [e1]
  refine ⟨_, _, rfl, rfl, by omega, ⟨h1, h2⟩, ?_⟩
  repeat ((conv => whnf); (first | refine Cnd.yes ?_ | refine Cnd.no ?_ | refine And.intro rfl ?_ | refine And.intro (by omega) ?_ | (refine And.intro ?_ ?_; focus (simp only [IntKind.wrap_i64, IntKind.wrap_u64, IntKind.wrap_u32]; omega)) | (refine And.intro ?_ ?_; focus (simp only [zl1, zl2, zl3, zl4, zl5, zl6, zl7, zl8] <;> omega)) | (refine Cnd.tt ?_ ?_; focus (first | (apply decide_eq_true; omega) | (simp only [zq1, zq2, zq3, zq4, zq5, zq6, zq7, zq8, zq9, zq10, zq11, zq12] <;> omega) | rfl)) | (refine Cnd.ff ?_ ?_; focus (first | (apply decide_eq_false; omega) | (simp only [zq1, zq2, zq3, zq4, zq5, zq6, zq7, zq8, zq9, zq10, zq11, zq12] <;> omega) | rfl))))
  conv => whnf
  rw [show (pc / 4) % 2 ^ s.b = slot s.b pc from rfl, e2]
  exact hK
theorem xcnt_runF (M : HL) (K : SV → List Ent → HL → Prop) (s : XS) (hs : s.OK) (pc : Nat) (h3 : pc < 4294967296) (hK : K (.v (.int .i64 (atI s.b pc s.h : Nat))) (xHp false s) M) :
    runF GX1 pf33 [.ptr 0 0 0 0, .v (.int .u32 pc)] (xHp false s) M K := by
  have h1 := hs.b1
  have h2 := hs.b2
  have hh := hs.h
  have hp : 2 ^ s.b ≤ 2 ^ 10 := Nat.pow_le_pow_right (by omega) hs.b2
  have e1 : IntKind.u32.wrap ((pc : Int).tdiv 4) = ((pc / 4 : Nat) : Int) := by rw [Int.tdiv_eq_ediv_of_nonneg (by omega), IntKind.wrap_u32]; omega
  have hx : (pc / 4) ^^^ s.h < 4294967296 := Nat.xor_lt_two_pow (n := 32) (by omega) (by omega)
  have ha : atI s.b pc s.h < 2 ^ s.b := Nat.mod_lt _ (Nat.pow_pos (by omega))
  have e2 : IntKind.i64.wrap (atI s.b pc s.h : Nat) = (atI s.b pc s.h : Nat) := by rw [IntKind.wrap_i64]; omega
  repeat ((conv => whnf); (first | refine Cnd.yes ?_ | refine Cnd.no ?_ | refine And.intro rfl ?_ | refine And.intro (by omega) ?_ | (refine And.intro ?_ ?_; focus (simp only [IntKind.wrap_i64, IntKind.wrap_u64, IntKind.wrap_u32]; omega)) | (refine And.intro ?_ ?_; focus (simp only [zl1, zl2, zl3, zl4, zl5, zl6, zl7, zl8] <;> omega)) | (refine Cnd.tt ?_ ?_; focus (first | (apply decide_eq_true; omega) | (simp only [zq1, zq2, zq3, zq4, zq5, zq6, zq7, zq8, zq9, zq10, zq11, zq12] <;> omega) | rfl)) | (refine Cnd.ff ?_ ?_; focus (first | (apply decide_eq_false; omega) | (simp only [zq1, zq2, zq3, zq4, zq5, zq6, zq7, zq8, zq9, zq10, zq11, zq12] <;> omega) | rfl))))
  conv => whnf
  rw [e1, xor32 (by omega) (by omega)]
  intro Mr hMr
  repeat ((conv => whnf); (first | refine Cnd.yes ?_ | refine Cnd.no ?_ | refine And.intro rfl ?_ | refine And.intro (by omega) ?_ | (refine And.intro ?_ ?_; focus (simp only [IntKind.wrap_i64, IntKind.wrap_u64, IntKind.wrap_u32]; omega)) | (refine And.intro ?_ ?_; focus (simp only [zl1, zl2, zl3, zl4, zl5, zl6, zl7, zl8] <;> omega)) | (refine Cnd.tt ?_ ?_; focus (first | (apply decide_eq_true; omega) | (simp only [zq1, zq2, zq3, zq4, zq5, zq6, zq7, zq8, zq9, zq10, zq11, zq12] <;> omega) | rfl)) | (refine Cnd.ff ?_ ?_; focus (first | (apply decide_eq_false; omega) | (simp only [zq1, zq2, zq3, zq4, zq5, zq6, zq7, zq8, zq9, zq10, zq11, zq12] <;> omega) | rfl))))
  conv => whnf
  refine ⟨_, _, rfl, rfl, hx, ⟨h1, h2⟩, ?_⟩
  repeat ((conv => whnf); (first | refine Cnd.yes ?_ | refine Cnd.no ?_ | refine And.intro rfl ?_ | refine And.intro (by omega) ?_ | (refine And.intro ?_ ?_; focus (simp only [IntKind.wrap_i64, IntKind.wrap_u64, IntKind.wrap_u32]; omega)) | (refine And.intro ?_ ?_; focus (simp only [zl1, zl2, zl3, zl4, zl5, zl6, zl7, zl8] <;> omega)) | (refine Cnd.tt ?_ ?_; focus (first | (apply decide_eq_true; omega) | (simp only [zq1, zq2, zq3, zq4, zq5, zq6, zq7, zq8, zq9, zq10, zq11, zq12] <;> omega) | rfl)) | (refine Cnd.ff ?_ ?_; focus (first | (apply decide_eq_false; omega) | (simp only [zq1, zq2, zq3, zq4, zq5, zq6, zq7, zq8, zq9, zq10, zq11, zq12] <;> omega) | rfl))))
  conv => whnf
  rw [show ((pc / 4) ^^^ s.h) % 2 ^ s.b = atI s.b pc s.h from rfl, e2]
  exact hK
theorem xplace_runF (M : HL) (K : SV → List Ent → HL → Prop) (s : XS) (hs : s.OK) (pc : Nat) (h3 : pc < 4294967296) (hK : K (.v (.int .i64 (slot s.b pc : Nat))) (xHp false s) M) :
    runF GX1 pf35 [.ptr 0 0 0 0, .v (.int .u32 pc)] (xHp false s) M K := by
  have h1 := hs.b1
  have h2 := hs.b2
  have hp : 2 ^ s.b ≤ 2 ^ 10 := Nat.pow_le_pow_right (by omega) hs.b2
  have e1 : IntKind.u32.wrap ((pc : Int).tdiv 4) = ((pc / 4 : Nat) : Int) := by rw [Int.tdiv_eq_ediv_of_nonneg (by omega), IntKind.wrap_u32]; omega
  have ha : slot s.b pc < 2 ^ s.b := Nat.mod_lt _ (Nat.pow_pos (by omega))
  have e2 : IntKind.i64.wrap (slot s.b pc : Nat) = (slot s.b pc : Nat) := by rw [IntKind.wrap_i64]; omega
  repeat ((conv => whnf); (first | refine Cnd.yes ?_ | refine Cnd.no ?_ | refine And.intro rfl ?_ | refine And.intro (by omega) ?_ | (refine And.intro ?_ ?_; focus (simp only [IntKind.wrap_i64, IntKind.wrap_u64, IntKind.wrap_u32]; omega)) | (refine And.intro ?_ ?_; focus (simp only [zl1, zl2, zl3, zl4, zl5, zl6, zl7, zl8] <;> omega)) | (refine Cnd.tt ?_ ?_; focus (first | (apply decide_eq_true; omega) | (simp only [zq1, zq2, zq3, zq4, zq5, zq6, zq7, zq8, zq9, zq10, zq11, zq12] <;> omega) | rfl)) | (refine Cnd.ff ?_ ?_; focus (first | (apply decide_eq_false; omega) | (simp only [zq1, zq2, zq3, zq4, zq5, zq6, zq7, zq8, zq9, zq10, zq11, zq12] <;> omega) | rfl))))
  conv => whnf
  rw [e1]
  refine ⟨_, _, rfl, rfl, by omega, ⟨h1, h2⟩, ?_⟩
  repeat ((conv => whnf); (first | refine Cnd.yes ?_ | refine Cnd.no ?_ | refine And.intro rfl ?_ | refine And.intro (by omega) ?_ | (refine And.intro ?_ ?_; focus (simp only [IntKind.wrap_i64, IntKind.wrap_u64, IntKind.wrap_u32]; omega)) | (refine And.intro ?_ ?_; focus (simp only [zl1, zl2, zl3, zl4, zl5, zl6, zl7, zl8] <;> omega)) | (refine Cnd.tt ?_ ?_; focus (first | (apply decide_eq_true; omega) | (simp only [zq1, zq2, zq3, zq4, zq5, zq6, zq7, zq8, zq9, zq10, zq11, zq12] <;> omega) | rfl)) | (refine Cnd.ff ?_ ?_; focus (first | (apply decide_eq_false; omega) | (simp only [zq1, zq2, zq3, zq4, zq5, zq6, zq7, zq8, zq9, zq10, zq11, zq12] <;> omega) | rfl))))
  conv => whnf
  rw [show (pc / 4) % 2 ^ s.b = slot s.b pc from rfl, e2]
  exact hK
def xcntS : Vc.Spec := fun args hp _ K => ∃ (o : Bool) (s : XS) (pc : Nat), args = [.ptr 0 0 0 0, .v (.int .u32 pc)] ∧ hp = xHp o s ∧ s.OK ∧ pc < 4294967296 ∧ K (.v (.int .i64 (atI s.b pc s.h : Nat))) (xHp o s)
theorem xcnt_ok : SOK Tryd.prog 33 xcntS := by
  refine TOK.weaken (runF_eq GX1_ok mixed at33.1 at33.2 pf33_eq) fun args hp M K h => ?_
  obtain ⟨o, s, pc, rfl, rfl, h1, h2, h3⟩ := h
  cases o with
  | true => exact xcnt_runT M K s h1 pc h2 h3
  | false => exact xcnt_runF M K s h1 pc h2 h3
def xplaceS : Vc.Spec := fun args hp _ K => ∃ (o : Bool) (s : XS) (pc : Nat), args = [.ptr 0 0 0 0, .v (.int .u32 pc)] ∧ hp = xHp o s ∧ s.OK ∧ pc < 4294967296 ∧ K (.v (.int .i64 (slot s.b pc : Nat))) (xHp o s)
theorem xplace_ok : SOK Tryd.prog 35 xplaceS := by
  refine TOK.weaken (runF_eq GX1_ok mixed at35.1 at35.2 pf35_eq) fun args hp M K h => ?_
  obtain ⟨o, s, pc, rfl, rfl, h1, h2, h3⟩ := h
  cases o with
  | true => exact xplace_runT M K s h1 pc h2 h3
  | false => exact xplace_runF M K s h1 pc h2 h3
noncomputable def specsX2 : Nat → Option Vc.Trans := tget [(34, frameT xbitsS), (33, frameT xcntS), (35, frameT xplaceS)]
noncomputable def GX2 : Nat → Option Vc.Trans := tabG specsX2 (tget tab) 5
theorem GX2_ok : GOK Tryd.prog GX2 := tabG_ok (GOK.cons (frame_ok xbits_ok) (GOK.cons (frame_ok xcnt_ok) (GOK.cons (frame_ok xplace_ok) .nil))) tab_ok 5
theorem xtaken_runT (M : HL) (K : SV → List Ent → HL → Prop) (s : XS) (hs : s.OK) (pc : Nat) (h3 : pc < 4294967296) (hK : K (.v (.bool (decide (s.c (atI s.b pc s.h) ≥ 2)))) (xHp true s) M) :
    runF GX2 pf25 [.ptr 0 0 0 0, .v (.int .u32 pc)] (xHp true s) M K := by
  have ha : atI s.b pc s.h < 2 ^ s.b := Nat.mod_lt _ (Nat.pow_pos (by omega))
  have e0 : toI (cellAt (cRows s.c (2 ^ s.b)) (0 + ((atI s.b pc s.h : Nat) : Int).toNat) 0) = s.c (atI s.b pc s.h) := by
    rw [Nat.zero_add, Int.toNat_natCast, cRows, tblOf_cell _ ha]; rfl
  repeat ((conv => whnf); (first | refine Cnd.yes ?_ | refine Cnd.no ?_ | refine And.intro rfl ?_ | refine And.intro (by omega) ?_ | (refine And.intro ?_ ?_; focus (simp only [IntKind.wrap_i64, IntKind.wrap_u64, IntKind.wrap_u32]; omega)) | (refine And.intro ?_ ?_; focus (simp only [zl1, zl2, zl3, zl4, zl5, zl6, zl7, zl8] <;> omega)) | (refine Cnd.tt ?_ ?_; focus (first | (apply decide_eq_true; omega) | (simp only [zq1, zq2, zq3, zq4, zq5, zq6, zq7, zq8, zq9, zq10, zq11, zq12] <;> omega) | rfl)) | (refine Cnd.ff ?_ ?_; focus (first | (apply decide_eq_false; omega) | (simp only [zq1, zq2, zq3, zq4, zq5, zq6, zq7, zq8, zq9, zq10, zq11, zq12] <;> omega) | rfl))))
  conv => whnf
  intro Mr hMr
  repeat ((conv => whnf); (first | refine Cnd.yes ?_ | refine Cnd.no ?_ | refine And.intro rfl ?_ | refine And.intro (by omega) ?_ | (refine And.intro ?_ ?_; focus (simp only [IntKind.wrap_i64, IntKind.wrap_u64, IntKind.wrap_u32]; omega)) | (refine And.intro ?_ ?_; focus (simp only [zl1, zl2, zl3, zl4, zl5, zl6, zl7, zl8] <;> omega)) | (refine Cnd.tt ?_ ?_; focus (first | (apply decide_eq_true; omega) | (simp only [zq1, zq2, zq3, zq4, zq5, zq6, zq7, zq8, zq9, zq10, zq11, zq12] <;> omega) | rfl)) | (refine Cnd.ff ?_ ?_; focus (first | (apply decide_eq_false; omega) | (simp only [zq1, zq2, zq3, zq4, zq5, zq6, zq7, zq8, zq9, zq10, zq11, zq12] <;> omega) | rfl))))
  conv => whnf
  refine ⟨false, s, pc, rfl, rfl, hs, h3, ?_⟩
  repeat ((conv => whnf); (first | refine Cnd.yes ?_ | refine Cnd.no ?_ | refine And.intro rfl ?_ | refine And.intro (by omega) ?_ | (refine And.intro ?_ ?_; focus (simp only [IntKind.wrap_i64, IntKind.wrap_u64, IntKind.wrap_u32]; omega)) | (refine And.intro ?_ ?_; focus (simp only [zl1, zl2, zl3, zl4, zl5, zl6, zl7, zl8] <;> omega)) | (refine Cnd.tt ?_ ?_; focus (first | (apply decide_eq_true; omega) | (simp only [zq1, zq2, zq3, zq4, zq5, zq6, zq7, zq8, zq9, zq10, zq11, zq12] <;> omega) | rfl)) | (refine Cnd.ff ?_ ?_; focus (first | (apply decide_eq_false; omega) | (simp only [zq1, zq2, zq3, zq4, zq5, zq6, zq7, zq8, zq9, zq10, zq11, zq12] <;> omega) | rfl))))
  conv => whnf
  refine ⟨by rw [cRows, tblOf_len]; omega, ?_⟩
  repeat ((conv => whnf); (first | refine Cnd.yes ?_ | refine Cnd.no ?_ | refine And.intro rfl ?_ | refine And.intro (by omega) ?_ | (refine And.intro ?_ ?_; focus (simp only [IntKind.wrap_i64, IntKind.wrap_u64, IntKind.wrap_u32]; omega)) | (refine And.intro ?_ ?_; focus (simp only [zl1, zl2, zl3, zl4, zl5, zl6, zl7, zl8] <;> omega)) | (refine Cnd.tt ?_ ?_; focus (first | (apply decide_eq_true; omega) | (simp only [zq1, zq2, zq3, zq4, zq5, zq6, zq7, zq8, zq9, zq10, zq11, zq12] <;> omega) | rfl)) | (refine Cnd.ff ?_ ?_; focus (first | (apply decide_eq_false; omega) | (simp only [zq1, zq2, zq3, zq4, zq5, zq6, zq7, zq8, zq9, zq10, zq11, zq12] <;> omega) | rfl))))
  conv => whnf
  rw [e0]
  exact hK
theorem xtaken_runF (M : HL) (K : SV → List Ent → HL → Prop) (s : XS) (hs : s.OK) (pc : Nat) (h3 : pc < 4294967296) (hK : K (.v (.bool (decide (s.c (atI s.b pc s.h) ≥ 2)))) (xHp false s) M) :
    runF GX2 pf25 [.ptr 0 0 0 0, .v (.int .u32 pc)] (xHp false s) M K := by
  have ha : atI s.b pc s.h < 2 ^ s.b := Nat.mod_lt _ (Nat.pow_pos (by omega))
  have e0 : toI (cellAt (cRows s.c (2 ^ s.b)) (0 + ((atI s.b pc s.h : Nat) : Int).toNat) 0) = s.c (atI s.b pc s.h) := by
    rw [Nat.zero_add, Int.toNat_natCast, cRows, tblOf_cell _ ha]; rfl
  repeat ((conv => whnf); (first | refine Cnd.yes ?_ | refine Cnd.no ?_ | refine And.intro rfl ?_ | refine And.intro (by omega) ?_ | (refine And.intro ?_ ?_; focus (simp only [IntKind.wrap_i64, IntKind.wrap_u64, IntKind.wrap_u32]; omega)) | (refine And.intro ?_ ?_; focus (simp only [zl1, zl2, zl3, zl4, zl5, zl6, zl7, zl8] <;> omega)) | (refine Cnd.tt ?_ ?_; focus (first | (apply decide_eq_true; omega) | (simp only [zq1, zq2, zq3, zq4, zq5, zq6, zq7, zq8, zq9, zq10, zq11, zq12] <;> omega) | rfl)) | (refine Cnd.ff ?_ ?_; focus (first | (apply decide_eq_false; omega) | (simp only [zq1, zq2, zq3, zq4, zq5, zq6, zq7, zq8, zq9, zq10, zq11, zq12] <;> omega) | rfl))))
  conv => whnf
  intro Mr hMr
  repeat ((conv => whnf); (first | refine Cnd.yes ?_ | refine Cnd.no ?_ | refine And.intro rfl ?_ | refine And.intro (by omega) ?_ | (refine And.intro ?_ ?_; focus (simp only [IntKind.wrap_i64, IntKind.wrap_u64, IntKind.wrap_u32]; omega)) | (refine And.intro ?_ ?_; focus (simp only [zl1, zl2, zl3, zl4, zl5, zl6, zl7, zl8] <;> omega)) | (refine Cnd.tt ?_ ?_; focus (first | (apply decide_eq_true; omega) | (simp only [zq1, zq2, zq3, zq4, zq5, zq6, zq7, zq8, zq9, zq10, zq11, zq12] <;> omega) | rfl)) | (refine Cnd.ff ?_ ?_; focus (first | (apply decide_eq_false; omega) | (simp only [zq1, zq2, zq3, zq4, zq5, zq6, zq7, zq8, zq9, zq10, zq11, zq12] <;> omega) | rfl))))
  conv => whnf
  refine ⟨false, s, pc, rfl, rfl, hs, h3, ?_⟩
  repeat ((conv => whnf); (first | refine Cnd.yes ?_ | refine Cnd.no ?_ | refine And.intro rfl ?_ | refine And.intro (by omega) ?_ | (refine And.intro ?_ ?_; focus (simp only [IntKind.wrap_i64, IntKind.wrap_u64, IntKind.wrap_u32]; omega)) | (refine And.intro ?_ ?_; focus (simp only [zl1, zl2, zl3, zl4, zl5, zl6, zl7, zl8] <;> omega)) | (refine Cnd.tt ?_ ?_; focus (first | (apply decide_eq_true; omega) | (simp only [zq1, zq2, zq3, zq4, zq5, zq6, zq7, zq8, zq9, zq10, zq11, zq12] <;> omega) | rfl)) | (refine Cnd.ff ?_ ?_; focus (first | (apply decide_eq_false; omega) | (simp only [zq1, zq2, zq3, zq4, zq5, zq6, zq7, zq8, zq9, zq10, zq11, zq12] <;> omega) | rfl))))
  conv => whnf
  refine ⟨by rw [cRows, tblOf_len]; omega, ?_⟩
  repeat ((conv => whnf); (first | refine Cnd.yes ?_ | refine Cnd.no ?_ | refine And.intro rfl ?_ | refine And.intro (by omega) ?_ | (refine And.intro ?_ ?_; focus (simp only [IntKind.wrap_i64, IntKind.wrap_u64, IntKind.wrap_u32]; omega)) | (refine And.intro ?_ ?_; focus (simp only [zl1, zl2, zl3, zl4, zl5, zl6, zl7, zl8] <;> omega)) | (refine Cnd.tt ?_ ?_; focus (first | (apply decide_eq_true; omega) | (simp only [zq1, zq2, zq3, zq4, zq5, zq6, zq7, zq8, zq9, zq10, zq11, zq12] <;> omega) | rfl)) | (refine Cnd.ff ?_ ?_; focus (first | (apply decide_eq_false; omega) | (simp only [zq1, zq2, zq3, zq4, zq5, zq6, zq7, zq8, zq9, zq10, zq11, zq12] <;> omega) | rfl))))
  conv => whnf
  rw [e0]
  exact hK
/-- Where a place leads, as a predictor has it. -/
def goes (f : Nat → Tg) (b pc : Nat) : SV := .tup [.v (.int .u32 (if (f (slot b pc)).is = true ∧ (f (slot b pc)).pc = pc then (f (slot b pc)).to else 0)), .v (.bool (decide ((f (slot b pc)).is = true ∧ (f (slot b pc)).pc = pc)))]
theorem xtarget_runT (M : HL) (K : SV → List Ent → HL → Prop) (s : XS) (hs : s.OK) (pc : Nat) (h3 : pc < 4294967296) (hK : K (goes s.f s.b pc) (xHp true s) M) :
    runF GX2 pf24 [.ptr 0 0 0 0, .v (.int .u32 pc)] (xHp true s) M K := by
  have ha : slot s.b pc < 2 ^ s.b := Nat.mod_lt _ (Nat.pow_pos (by omega))
  have e0 : toB (cellAt (iRows s.f (2 ^ s.b)) (0 + ((slot s.b pc : Nat) : Int).toNat) 0) = (s.f (slot s.b pc)).is := by
    rw [Nat.zero_add, Int.toNat_natCast, iRows, tblOf_cell _ ha]; rfl
  have e1 : toI (cellAt (pRows s.f (2 ^ s.b)) (0 + ((slot s.b pc : Nat) : Int).toNat) 0) = (s.f (slot s.b pc)).pc := by
    rw [Nat.zero_add, Int.toNat_natCast, pRows, tblOf_cell _ ha]; rfl
  have e2 : toI (cellAt (tRows s.f (2 ^ s.b)) (0 + ((slot s.b pc : Nat) : Int).toNat) 0) = (s.f (slot s.b pc)).to := by
    rw [Nat.zero_add, Int.toNat_natCast, tRows, tblOf_cell _ ha]; rfl
  unfold goes at hK
  repeat ((conv => whnf); (first | refine Cnd.yes ?_ | refine Cnd.no ?_ | refine And.intro rfl ?_ | refine And.intro (by omega) ?_ | (refine And.intro ?_ ?_; focus (simp only [IntKind.wrap_i64, IntKind.wrap_u64, IntKind.wrap_u32]; omega)) | (refine And.intro ?_ ?_; focus (simp only [zl1, zl2, zl3, zl4, zl5, zl6, zl7, zl8] <;> omega)) | (refine Cnd.tt ?_ ?_; focus (first | (apply decide_eq_true; omega) | (simp only [zq1, zq2, zq3, zq4, zq5, zq6, zq7, zq8, zq9, zq10, zq11, zq12] <;> omega) | rfl)) | (refine Cnd.ff ?_ ?_; focus (first | (apply decide_eq_false; omega) | (simp only [zq1, zq2, zq3, zq4, zq5, zq6, zq7, zq8, zq9, zq10, zq11, zq12] <;> omega) | rfl))))
  conv => whnf
  refine ⟨true, s, pc, rfl, rfl, hs, h3, ?_⟩
  repeat ((conv => whnf); (first | refine Cnd.yes ?_ | refine Cnd.no ?_ | refine And.intro rfl ?_ | refine And.intro (by omega) ?_ | (refine And.intro ?_ ?_; focus (simp only [IntKind.wrap_i64, IntKind.wrap_u64, IntKind.wrap_u32]; omega)) | (refine And.intro ?_ ?_; focus (simp only [zl1, zl2, zl3, zl4, zl5, zl6, zl7, zl8] <;> omega)) | (refine Cnd.tt ?_ ?_; focus (first | (apply decide_eq_true; omega) | (simp only [zq1, zq2, zq3, zq4, zq5, zq6, zq7, zq8, zq9, zq10, zq11, zq12] <;> omega) | rfl)) | (refine Cnd.ff ?_ ?_; focus (first | (apply decide_eq_false; omega) | (simp only [zq1, zq2, zq3, zq4, zq5, zq6, zq7, zq8, zq9, zq10, zq11, zq12] <;> omega) | rfl))))
  conv => whnf
  refine ⟨by rw [iRows, tblOf_len]; omega, ?_⟩
  repeat ((conv => whnf); (first | refine Cnd.yes ?_ | refine Cnd.no ?_ | refine And.intro rfl ?_ | refine And.intro (by omega) ?_ | (refine And.intro ?_ ?_; focus (simp only [IntKind.wrap_i64, IntKind.wrap_u64, IntKind.wrap_u32]; omega)) | (refine And.intro ?_ ?_; focus (simp only [zl1, zl2, zl3, zl4, zl5, zl6, zl7, zl8] <;> omega)) | (refine Cnd.tt ?_ ?_; focus (first | (apply decide_eq_true; omega) | (simp only [zq1, zq2, zq3, zq4, zq5, zq6, zq7, zq8, zq9, zq10, zq11, zq12] <;> omega) | rfl)) | (refine Cnd.ff ?_ ?_; focus (first | (apply decide_eq_false; omega) | (simp only [zq1, zq2, zq3, zq4, zq5, zq6, zq7, zq8, zq9, zq10, zq11, zq12] <;> omega) | rfl))))
  conv => whnf
  rw [e0]
  cases hi : (s.f (slot s.b pc)).is with
  | false =>
    rw [hi] at hK
    repeat ((conv => whnf); (first | refine Cnd.yes ?_ | refine Cnd.no ?_ | refine And.intro rfl ?_ | refine And.intro (by omega) ?_ | (refine And.intro ?_ ?_; focus (simp only [IntKind.wrap_i64, IntKind.wrap_u64, IntKind.wrap_u32]; omega)) | (refine And.intro ?_ ?_; focus (simp only [zl1, zl2, zl3, zl4, zl5, zl6, zl7, zl8] <;> omega)) | (refine Cnd.tt ?_ ?_; focus (first | (apply decide_eq_true; omega) | (simp only [zq1, zq2, zq3, zq4, zq5, zq6, zq7, zq8, zq9, zq10, zq11, zq12] <;> omega) | rfl)) | (refine Cnd.ff ?_ ?_; focus (first | (apply decide_eq_false; omega) | (simp only [zq1, zq2, zq3, zq4, zq5, zq6, zq7, zq8, zq9, zq10, zq11, zq12] <;> omega) | rfl))))
    conv => whnf
    rw [if_neg (by simp), decide_eq_false (by simp)] at hK
    exact hK
  | true =>
    rw [hi] at hK
    repeat ((conv => whnf); (first | refine Cnd.yes ?_ | refine Cnd.no ?_ | refine And.intro rfl ?_ | refine And.intro (by omega) ?_ | (refine And.intro ?_ ?_; focus (simp only [IntKind.wrap_i64, IntKind.wrap_u64, IntKind.wrap_u32]; omega)) | (refine And.intro ?_ ?_; focus (simp only [zl1, zl2, zl3, zl4, zl5, zl6, zl7, zl8] <;> omega)) | (refine Cnd.tt ?_ ?_; focus (first | (apply decide_eq_true; omega) | (simp only [zq1, zq2, zq3, zq4, zq5, zq6, zq7, zq8, zq9, zq10, zq11, zq12] <;> omega) | rfl)) | (refine Cnd.ff ?_ ?_; focus (first | (apply decide_eq_false; omega) | (simp only [zq1, zq2, zq3, zq4, zq5, zq6, zq7, zq8, zq9, zq10, zq11, zq12] <;> omega) | rfl))))
    conv => whnf
    refine ⟨by rw [pRows, tblOf_len]; omega, ?_⟩
    repeat ((conv => whnf); (first | refine Cnd.yes ?_ | refine Cnd.no ?_ | refine And.intro rfl ?_ | refine And.intro (by omega) ?_ | (refine And.intro ?_ ?_; focus (simp only [IntKind.wrap_i64, IntKind.wrap_u64, IntKind.wrap_u32]; omega)) | (refine And.intro ?_ ?_; focus (simp only [zl1, zl2, zl3, zl4, zl5, zl6, zl7, zl8] <;> omega)) | (refine Cnd.tt ?_ ?_; focus (first | (apply decide_eq_true; omega) | (simp only [zq1, zq2, zq3, zq4, zq5, zq6, zq7, zq8, zq9, zq10, zq11, zq12] <;> omega) | rfl)) | (refine Cnd.ff ?_ ?_; focus (first | (apply decide_eq_false; omega) | (simp only [zq1, zq2, zq3, zq4, zq5, zq6, zq7, zq8, zq9, zq10, zq11, zq12] <;> omega) | rfl))))
    conv => whnf
    rw [e1]
    by_cases hp : (s.f (slot s.b pc)).pc = pc
    · repeat ((conv => whnf); (first | refine Cnd.yes ?_ | refine Cnd.no ?_ | refine And.intro rfl ?_ | refine And.intro (by omega) ?_ | (refine And.intro ?_ ?_; focus (simp only [IntKind.wrap_i64, IntKind.wrap_u64, IntKind.wrap_u32]; omega)) | (refine And.intro ?_ ?_; focus (simp only [zl1, zl2, zl3, zl4, zl5, zl6, zl7, zl8] <;> omega)) | (refine Cnd.tt ?_ ?_; focus (first | (apply decide_eq_true; omega) | (simp only [zq1, zq2, zq3, zq4, zq5, zq6, zq7, zq8, zq9, zq10, zq11, zq12] <;> omega) | rfl)) | (refine Cnd.ff ?_ ?_; focus (first | (apply decide_eq_false; omega) | (simp only [zq1, zq2, zq3, zq4, zq5, zq6, zq7, zq8, zq9, zq10, zq11, zq12] <;> omega) | rfl))))
      conv => whnf
      refine ⟨by rw [tRows, tblOf_len]; omega, ?_⟩
      repeat ((conv => whnf); (first | refine Cnd.yes ?_ | refine Cnd.no ?_ | refine And.intro rfl ?_ | refine And.intro (by omega) ?_ | (refine And.intro ?_ ?_; focus (simp only [IntKind.wrap_i64, IntKind.wrap_u64, IntKind.wrap_u32]; omega)) | (refine And.intro ?_ ?_; focus (simp only [zl1, zl2, zl3, zl4, zl5, zl6, zl7, zl8] <;> omega)) | (refine Cnd.tt ?_ ?_; focus (first | (apply decide_eq_true; omega) | (simp only [zq1, zq2, zq3, zq4, zq5, zq6, zq7, zq8, zq9, zq10, zq11, zq12] <;> omega) | rfl)) | (refine Cnd.ff ?_ ?_; focus (first | (apply decide_eq_false; omega) | (simp only [zq1, zq2, zq3, zq4, zq5, zq6, zq7, zq8, zq9, zq10, zq11, zq12] <;> omega) | rfl))))
      conv => whnf
      rw [e2]
      rw [if_pos ⟨rfl, hp⟩, decide_eq_true ⟨rfl, hp⟩] at hK
      exact hK
    · repeat ((conv => whnf); (first | refine Cnd.yes ?_ | refine Cnd.no ?_ | refine And.intro rfl ?_ | refine And.intro (by omega) ?_ | (refine And.intro ?_ ?_; focus (simp only [IntKind.wrap_i64, IntKind.wrap_u64, IntKind.wrap_u32]; omega)) | (refine And.intro ?_ ?_; focus (simp only [zl1, zl2, zl3, zl4, zl5, zl6, zl7, zl8] <;> omega)) | (refine Cnd.tt ?_ ?_; focus (first | (apply decide_eq_true; omega) | (simp only [zq1, zq2, zq3, zq4, zq5, zq6, zq7, zq8, zq9, zq10, zq11, zq12] <;> omega) | rfl)) | (refine Cnd.ff ?_ ?_; focus (first | (apply decide_eq_false; omega) | (simp only [zq1, zq2, zq3, zq4, zq5, zq6, zq7, zq8, zq9, zq10, zq11, zq12] <;> omega) | rfl))))
      conv => whnf
      rw [if_neg (fun h => hp h.2), decide_eq_false (fun h => hp h.2)] at hK
      exact hK
theorem xtarget_runF (M : HL) (K : SV → List Ent → HL → Prop) (s : XS) (hs : s.OK) (pc : Nat) (h3 : pc < 4294967296) (hK : K (goes s.f s.b pc) (xHp false s) M) :
    runF GX2 pf24 [.ptr 0 0 0 0, .v (.int .u32 pc)] (xHp false s) M K := by
  have ha : slot s.b pc < 2 ^ s.b := Nat.mod_lt _ (Nat.pow_pos (by omega))
  have e0 : toB (cellAt (iRows s.f (2 ^ s.b)) (0 + ((slot s.b pc : Nat) : Int).toNat) 0) = (s.f (slot s.b pc)).is := by
    rw [Nat.zero_add, Int.toNat_natCast, iRows, tblOf_cell _ ha]; rfl
  have e1 : toI (cellAt (pRows s.f (2 ^ s.b)) (0 + ((slot s.b pc : Nat) : Int).toNat) 0) = (s.f (slot s.b pc)).pc := by
    rw [Nat.zero_add, Int.toNat_natCast, pRows, tblOf_cell _ ha]; rfl
  have e2 : toI (cellAt (tRows s.f (2 ^ s.b)) (0 + ((slot s.b pc : Nat) : Int).toNat) 0) = (s.f (slot s.b pc)).to := by
    rw [Nat.zero_add, Int.toNat_natCast, tRows, tblOf_cell _ ha]; rfl
  unfold goes at hK
  repeat ((conv => whnf); (first | refine Cnd.yes ?_ | refine Cnd.no ?_ | refine And.intro rfl ?_ | refine And.intro (by omega) ?_ | (refine And.intro ?_ ?_; focus (simp only [IntKind.wrap_i64, IntKind.wrap_u64, IntKind.wrap_u32]; omega)) | (refine And.intro ?_ ?_; focus (simp only [zl1, zl2, zl3, zl4, zl5, zl6, zl7, zl8] <;> omega)) | (refine Cnd.tt ?_ ?_; focus (first | (apply decide_eq_true; omega) | (simp only [zq1, zq2, zq3, zq4, zq5, zq6, zq7, zq8, zq9, zq10, zq11, zq12] <;> omega) | rfl)) | (refine Cnd.ff ?_ ?_; focus (first | (apply decide_eq_false; omega) | (simp only [zq1, zq2, zq3, zq4, zq5, zq6, zq7, zq8, zq9, zq10, zq11, zq12] <;> omega) | rfl))))
  conv => whnf
  refine ⟨false, s, pc, rfl, rfl, hs, h3, ?_⟩
  repeat ((conv => whnf); (first | refine Cnd.yes ?_ | refine Cnd.no ?_ | refine And.intro rfl ?_ | refine And.intro (by omega) ?_ | (refine And.intro ?_ ?_; focus (simp only [IntKind.wrap_i64, IntKind.wrap_u64, IntKind.wrap_u32]; omega)) | (refine And.intro ?_ ?_; focus (simp only [zl1, zl2, zl3, zl4, zl5, zl6, zl7, zl8] <;> omega)) | (refine Cnd.tt ?_ ?_; focus (first | (apply decide_eq_true; omega) | (simp only [zq1, zq2, zq3, zq4, zq5, zq6, zq7, zq8, zq9, zq10, zq11, zq12] <;> omega) | rfl)) | (refine Cnd.ff ?_ ?_; focus (first | (apply decide_eq_false; omega) | (simp only [zq1, zq2, zq3, zq4, zq5, zq6, zq7, zq8, zq9, zq10, zq11, zq12] <;> omega) | rfl))))
  conv => whnf
  refine ⟨by rw [iRows, tblOf_len]; omega, ?_⟩
  repeat ((conv => whnf); (first | refine Cnd.yes ?_ | refine Cnd.no ?_ | refine And.intro rfl ?_ | refine And.intro (by omega) ?_ | (refine And.intro ?_ ?_; focus (simp only [IntKind.wrap_i64, IntKind.wrap_u64, IntKind.wrap_u32]; omega)) | (refine And.intro ?_ ?_; focus (simp only [zl1, zl2, zl3, zl4, zl5, zl6, zl7, zl8] <;> omega)) | (refine Cnd.tt ?_ ?_; focus (first | (apply decide_eq_true; omega) | (simp only [zq1, zq2, zq3, zq4, zq5, zq6, zq7, zq8, zq9, zq10, zq11, zq12] <;> omega) | rfl)) | (refine Cnd.ff ?_ ?_; focus (first | (apply decide_eq_false; omega) | (simp only [zq1, zq2, zq3, zq4, zq5, zq6, zq7, zq8, zq9, zq10, zq11, zq12] <;> omega) | rfl))))
  conv => whnf
  rw [e0]
  cases hi : (s.f (slot s.b pc)).is with
  | false =>
    rw [hi] at hK
    repeat ((conv => whnf); (first | refine Cnd.yes ?_ | refine Cnd.no ?_ | refine And.intro rfl ?_ | refine And.intro (by omega) ?_ | (refine And.intro ?_ ?_; focus (simp only [IntKind.wrap_i64, IntKind.wrap_u64, IntKind.wrap_u32]; omega)) | (refine And.intro ?_ ?_; focus (simp only [zl1, zl2, zl3, zl4, zl5, zl6, zl7, zl8] <;> omega)) | (refine Cnd.tt ?_ ?_; focus (first | (apply decide_eq_true; omega) | (simp only [zq1, zq2, zq3, zq4, zq5, zq6, zq7, zq8, zq9, zq10, zq11, zq12] <;> omega) | rfl)) | (refine Cnd.ff ?_ ?_; focus (first | (apply decide_eq_false; omega) | (simp only [zq1, zq2, zq3, zq4, zq5, zq6, zq7, zq8, zq9, zq10, zq11, zq12] <;> omega) | rfl))))
    conv => whnf
    rw [if_neg (by simp), decide_eq_false (by simp)] at hK
    exact hK
  | true =>
    rw [hi] at hK
    repeat ((conv => whnf); (first | refine Cnd.yes ?_ | refine Cnd.no ?_ | refine And.intro rfl ?_ | refine And.intro (by omega) ?_ | (refine And.intro ?_ ?_; focus (simp only [IntKind.wrap_i64, IntKind.wrap_u64, IntKind.wrap_u32]; omega)) | (refine And.intro ?_ ?_; focus (simp only [zl1, zl2, zl3, zl4, zl5, zl6, zl7, zl8] <;> omega)) | (refine Cnd.tt ?_ ?_; focus (first | (apply decide_eq_true; omega) | (simp only [zq1, zq2, zq3, zq4, zq5, zq6, zq7, zq8, zq9, zq10, zq11, zq12] <;> omega) | rfl)) | (refine Cnd.ff ?_ ?_; focus (first | (apply decide_eq_false; omega) | (simp only [zq1, zq2, zq3, zq4, zq5, zq6, zq7, zq8, zq9, zq10, zq11, zq12] <;> omega) | rfl))))
    conv => whnf
    refine ⟨by rw [pRows, tblOf_len]; omega, ?_⟩
    repeat ((conv => whnf); (first | refine Cnd.yes ?_ | refine Cnd.no ?_ | refine And.intro rfl ?_ | refine And.intro (by omega) ?_ | (refine And.intro ?_ ?_; focus (simp only [IntKind.wrap_i64, IntKind.wrap_u64, IntKind.wrap_u32]; omega)) | (refine And.intro ?_ ?_; focus (simp only [zl1, zl2, zl3, zl4, zl5, zl6, zl7, zl8] <;> omega)) | (refine Cnd.tt ?_ ?_; focus (first | (apply decide_eq_true; omega) | (simp only [zq1, zq2, zq3, zq4, zq5, zq6, zq7, zq8, zq9, zq10, zq11, zq12] <;> omega) | rfl)) | (refine Cnd.ff ?_ ?_; focus (first | (apply decide_eq_false; omega) | (simp only [zq1, zq2, zq3, zq4, zq5, zq6, zq7, zq8, zq9, zq10, zq11, zq12] <;> omega) | rfl))))
    conv => whnf
    rw [e1]
    by_cases hp : (s.f (slot s.b pc)).pc = pc
    · repeat ((conv => whnf); (first | refine Cnd.yes ?_ | refine Cnd.no ?_ | refine And.intro rfl ?_ | refine And.intro (by omega) ?_ | (refine And.intro ?_ ?_; focus (simp only [IntKind.wrap_i64, IntKind.wrap_u64, IntKind.wrap_u32]; omega)) | (refine And.intro ?_ ?_; focus (simp only [zl1, zl2, zl3, zl4, zl5, zl6, zl7, zl8] <;> omega)) | (refine Cnd.tt ?_ ?_; focus (first | (apply decide_eq_true; omega) | (simp only [zq1, zq2, zq3, zq4, zq5, zq6, zq7, zq8, zq9, zq10, zq11, zq12] <;> omega) | rfl)) | (refine Cnd.ff ?_ ?_; focus (first | (apply decide_eq_false; omega) | (simp only [zq1, zq2, zq3, zq4, zq5, zq6, zq7, zq8, zq9, zq10, zq11, zq12] <;> omega) | rfl))))
      conv => whnf
      refine ⟨by rw [tRows, tblOf_len]; omega, ?_⟩
      repeat ((conv => whnf); (first | refine Cnd.yes ?_ | refine Cnd.no ?_ | refine And.intro rfl ?_ | refine And.intro (by omega) ?_ | (refine And.intro ?_ ?_; focus (simp only [IntKind.wrap_i64, IntKind.wrap_u64, IntKind.wrap_u32]; omega)) | (refine And.intro ?_ ?_; focus (simp only [zl1, zl2, zl3, zl4, zl5, zl6, zl7, zl8] <;> omega)) | (refine Cnd.tt ?_ ?_; focus (first | (apply decide_eq_true; omega) | (simp only [zq1, zq2, zq3, zq4, zq5, zq6, zq7, zq8, zq9, zq10, zq11, zq12] <;> omega) | rfl)) | (refine Cnd.ff ?_ ?_; focus (first | (apply decide_eq_false; omega) | (simp only [zq1, zq2, zq3, zq4, zq5, zq6, zq7, zq8, zq9, zq10, zq11, zq12] <;> omega) | rfl))))
      conv => whnf
      rw [e2]
      rw [if_pos ⟨rfl, hp⟩, decide_eq_true ⟨rfl, hp⟩] at hK
      exact hK
    · repeat ((conv => whnf); (first | refine Cnd.yes ?_ | refine Cnd.no ?_ | refine And.intro rfl ?_ | refine And.intro (by omega) ?_ | (refine And.intro ?_ ?_; focus (simp only [IntKind.wrap_i64, IntKind.wrap_u64, IntKind.wrap_u32]; omega)) | (refine And.intro ?_ ?_; focus (simp only [zl1, zl2, zl3, zl4, zl5, zl6, zl7, zl8] <;> omega)) | (refine Cnd.tt ?_ ?_; focus (first | (apply decide_eq_true; omega) | (simp only [zq1, zq2, zq3, zq4, zq5, zq6, zq7, zq8, zq9, zq10, zq11, zq12] <;> omega) | rfl)) | (refine Cnd.ff ?_ ?_; focus (first | (apply decide_eq_false; omega) | (simp only [zq1, zq2, zq3, zq4, zq5, zq6, zq7, zq8, zq9, zq10, zq11, zq12] <;> omega) | rfl))))
      conv => whnf
      rw [if_neg (fun h => hp h.2), decide_eq_false (fun h => hp h.2)] at hK
      exact hK
def xtakenS : Vc.Spec := fun args hp _ K => ∃ (o : Bool) (s : XS) (pc : Nat), args = [.ptr 0 0 0 0, .v (.int .u32 pc)] ∧ hp = xHp o s ∧ s.OK ∧ pc < 4294967296 ∧ K (.v (.bool (decide (s.c (atI s.b pc s.h) ≥ 2)))) (xHp o s)
theorem xtaken_ok : SOK Tryd.prog 25 xtakenS := by
  refine TOK.weaken (runF_eq GX2_ok mixed at25.1 at25.2 pf25_eq) fun args hp M K h => ?_
  obtain ⟨o, s, pc, rfl, rfl, h1, h2, h3⟩ := h
  cases o with
  | true => exact xtaken_runT M K s h1 pc h2 h3
  | false => exact xtaken_runF M K s h1 pc h2 h3
def xtargetS : Vc.Spec := fun args hp _ K => ∃ (o : Bool) (s : XS) (pc : Nat), args = [.ptr 0 0 0 0, .v (.int .u32 pc)] ∧ hp = xHp o s ∧ s.OK ∧ pc < 4294967296 ∧ K (goes s.f s.b pc) (xHp o s)
theorem xtarget_ok : SOK Tryd.prog 24 xtargetS := by
  refine TOK.weaken (runF_eq GX2_ok mixed at24.1 at24.2 pf24_eq) fun args hp M K h => ?_
  obtain ⟨o, s, pc, rfl, rfl, h1, h2, h3⟩ := h
  cases o with
  | true => exact xtarget_runT M K s h1 pc h2 h3
  | false => exact xtarget_runF M K s h1 pc h2 h3
end Go.Proofs.YtmhgiffhmcigpaaDoor
