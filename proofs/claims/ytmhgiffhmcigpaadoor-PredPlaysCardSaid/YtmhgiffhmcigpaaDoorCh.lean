import Derived.Test.YtmhgiffhmcigpaaDoorCg
namespace Go.Proofs.YtmhgiffhmcigpaaDoor
open Go Go.Vc
set_option maxRecDepth 100000
set_option linter.unusedSimpArgs false
set_option linter.unusedVariables false
def tblHpO (o : Bool) (b h : Nat) (c : Nat → Int) : List Ent := [cellsB o 62 [.v (.int .i64 b), .slc 1 1 0 (2 ^ b), .v (.int .u32 h)], .row o 5 [.int .u8] (fill c (2 ^ b) (2 ^ b))]
theorem taken_run (o : Bool) (M : HL) (K : SV → List Ent → HL → Prop) (b h pc : Nat) (c : Nat → Int) (h1 : b ≤ 10) (h2 : h < 2 ^ b) (h3 : pc < 4294967296)
    (hK : K (.v (.bool (decide (c (atI b pc h) ≥ 2)))) (tblHpO o b h c) M) :
    runF G0 pf10 [.ptr 0 0 0 0, .v (.int .u32 pc)] (tblHpO o b h c) M K := by
  have hp : 2 ^ b ≤ 2 ^ 10 := Nat.pow_le_pow_right (by omega) h1
  have hp0 : 0 < 2 ^ b := Nat.pow_pos (by omega)
  have e1 : IntKind.u32.wrap ((pc : Int).tdiv 4) = ((pc / 4 : Nat) : Int) := by rw [Int.tdiv_eq_ediv_of_nonneg (by omega), IntKind.wrap_u32]; omega
  have e2 : IntKind.u32.wrap (((2 ^ b : Nat) : Int) - 1) = ((2 ^ b - 1 : Nat) : Int) := by rw [IntKind.wrap_u32]; omega
  have hx : (pc / 4) ^^^ h < 4294967296 := Nat.xor_lt_two_pow (n := 32) (by omega) (by omega)
  have ha : atI b pc h < 2 ^ b := Nat.mod_lt _ hp0
  cases o
  all_goals
    conv => whnf
    refine ⟨by omega, ?_⟩
    conv => whnf
    refine ⟨by omega, ?_⟩
    rw [shl32 (by omega), e1, xor32 (by omega) (by omega)]
    conv => whnf
    rw [e2, and32 hx (by omega)]
    refine ⟨by omega, by have := Nat.mod_lt ((pc / 4) ^^^ h) hp0; omega, ?_⟩
    rw [Int.toNat_natCast, Nat.zero_add, show (pc / 4 ^^^ h) % 2 ^ b = atI b pc h from rfl]
    conv => whnf
    refine ⟨by simp [fill]; omega, ?_⟩
    conv => whnf
    rw [Nat.zero_add, cell_fill c ha]
    exact hK
def learnS : Vc.Spec := fun args hp _ K => ∃ b h pc tk c, args = [.ptr 0 0 0 0, .v (.int .u32 (pc : Nat)), .v (.bool tk)] ∧ hp = tblHp b h c ∧ b ≤ 10 ∧ h < 2 ^ b ∧ pc < 4294967296 ∧ (∀ i, 0 ≤ c i ∧ c i ≤ 3) ∧
  K (.tup []) (tblHp b (learnH b h tk) (learnC b h pc tk c))
theorem learn_ok : SOK Tryd.prog 9 learnS := by
  refine TOK.weaken (runF_eq G0_ok mixed at9.1 at9.2 pf9_eq) fun args hp M K h => ?_
  obtain ⟨b, h, pc, tk, c, rfl, rfl, h1, h2, h3, h4, h5⟩ := h
  exact learn_run M K b h pc tk c h1 h2 h3 h4 h5
def takenS : Vc.Spec := fun args hp _ K => ∃ o b h pc c, args = [.ptr 0 0 0 0, .v (.int .u32 (pc : Nat))] ∧ hp = tblHpO o b h c ∧ b ≤ 10 ∧ h < 2 ^ b ∧ pc < 4294967296 ∧
  K (.v (.bool (decide (c (atI b pc h) ≥ 2)))) (tblHpO o b h c)
theorem taken_ok : SOK Tryd.prog 10 takenS := by
  refine TOK.weaken (runF_eq G0_ok mixed at10.1 at10.2 pf10_eq) fun args hp M K h => ?_
  obtain ⟨o, b, h, pc, c, rfl, rfl, h1, h2, h3, h5⟩ := h
  exact taken_run o M K b h pc c h1 h2 h3 h5
noncomputable def specs2 : Nat → Option Vc.Trans := tget [(8, frameT newS), (9, frameT learnS), (10, frameT takenS)]
noncomputable def G2 : Nat → Option Vc.Trans := tabG specs2 (tget tab) 5
theorem G2_ok : GOK Tryd.prog G2 := tabG_ok (GOK.cons (frame_ok new_ok) (GOK.cons (frame_ok learn_ok) (GOK.cons (frame_ok taken_ok) .nil))) tab_ok 5

theorem seedC_range (s : Int) (i : Nat) : 0 ≤ seedC s i ∧ seedC s i ≤ 3 := by
  unfold seedC
  omega
def firstHp : List Ent := [.row true 5 [.int .u8] (fill (learnC 2 1 0 true (learnC 2 0 0 true (seedC 0))) 4 4), .cells 62 [.v (.int .i64 2), .slc 0 1 0 4, .v (.int .u32 3)],
  .row true 72 [.int .u32, .int .u32, .bool] (List.replicate 4 [.int .u32 0, .int .u32 0, .bool false]), .cells 66 [.v (.int .i64 2), .slc 2 3 0 4], .cells 68 [.v (.slice none 0 0)], .cells 34 [.ptr 1 0 0 0, .ptr 3 0 0 0, .ptr 4 0 0 0]]
theorem first_run (M : HL) (K : SV → List Ent → HL → Prop) (hK : K (.v (.bool true)) firstHp M) : runF G2 pf7 [] [] M K := by
  conv => whnf
  refine ⟨by omega, by omega, ?_⟩
  repeat ((conv => whnf); (first | refine Cnd.yes ?_ | refine Cnd.no ?_ | refine And.intro rfl ?_ | refine And.intro (by omega) ?_ | (refine And.intro ?_ ?_; focus (simp only [IntKind.wrap_i64, IntKind.wrap_u64, IntKind.wrap_u32]; omega)) | (refine And.intro ?_ ?_; focus (simp only [zl1, zl2, zl3, zl4, zl5, zl6, zl7, zl8] <;> omega))))
  conv => whnf
  refine ⟨true, 2, 0, 0, seedC 0, rfl, rfl, by omega, by decide, by omega, ?_⟩
  conv => whnf
  refine ⟨2, 0, 0, true, seedC 0, rfl, rfl, by omega, by decide, by omega, seedC_range 0, ?_⟩
  conv => whnf
  refine ⟨2, learnH 2 0 true, 0, true, learnC 2 0 0 true (seedC 0), rfl, rfl, by omega, by decide, by omega, learnC_range (seedC_range 0), ?_⟩
  conv => whnf
  refine Cnd.tt (by decide) ?_
  repeat ((conv => whnf); (first | refine Cnd.yes ?_ | refine Cnd.no ?_ | refine And.intro rfl ?_ | refine And.intro (by omega) ?_ | (refine And.intro ?_ ?_; focus (simp only [IntKind.wrap_i64, IntKind.wrap_u64, IntKind.wrap_u32]; omega)) | (refine And.intro ?_ ?_; focus (simp only [zl1, zl2, zl3, zl4, zl5, zl6, zl7, zl8] <;> omega))))
  conv => whnf
  exact hK
def firstS : Vc.Spec := fun args hp _ K => args = [] ∧ hp = [] ∧ K (.v (.bool true)) firstHp
theorem first_ok : SOK Tryd.prog 7 firstS := by
  refine TOK.weaken (runF_eq G2_ok mixed at7.1 at7.2 pf7_eq) fun args hp M K h => ?_
  obtain ⟨rfl, rfl, h⟩ := h
  exact first_run M K h
noncomputable def specs3 : Nat → Option Vc.Trans := tget [(7, frameT firstS), (8, frameT newS), (9, frameT learnS), (10, frameT takenS)]
noncomputable def G3 : Nat → Option Vc.Trans := tabG specs3 (tget tab) 5
theorem G3_ok : GOK Tryd.prog G3 := tabG_ok (GOK.cons (frame_ok first_ok) (GOK.cons (frame_ok new_ok) (GOK.cons (frame_ok learn_ok) (GOK.cons (frame_ok taken_ok) .nil)))) tab_ok 5
end Go.Proofs.YtmhgiffhmcigpaaDoor
