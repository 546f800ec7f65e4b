/-
  The table of targets: Seen, Target, walked; their contracts.
-/
import Derived.Test.YtmhgiffhmcigpaaDoorCi
namespace Go.Proofs.YtmhgiffhmcigpaaDoor
open Go Go.Vc
set_option maxRecDepth 100000
set_option linter.unusedSimpArgs false
set_option linter.unusedVariables false
/-- A place of the table of targets. -/
structure Tg where
  pc : Nat
  to : Nat
  is : Bool
def trow (f : Nat → Tg) (j : Nat) : List Value := [.int .u32 (f j).pc, .int .u32 (f j).to, .bool (f j).is]
def slot (b pc : Nat) : Nat := pc / 4 % 2 ^ b
def tgtHp (o : Bool) (b : Nat) (f : Nat → Tg) : List Ent := [cellsB o 66 [.v (.int .i64 b), .slc 1 3 0 (2 ^ b)], .row o 72 [.int .u32, .int .u32, .bool] (tblOf (trow f) (2 ^ b))]
def seenF (b pc to : Nat) (f : Nat → Tg) (j : Nat) : Tg := if j = slot b pc then ⟨pc, to, true⟩ else f j
theorem seen_run (M : HL) (K : SV → List Ent → HL → Prop) (b pc to : Nat) (f : Nat → Tg) (h1 : b ≤ 10) (h3 : pc < 4294967296)
    (hK : K (.tup []) (tgtHp true b (seenF b pc to f)) M) : runF G0 pf12 [.ptr 0 0 0 0, .v (.int .u32 pc), .v (.int .u32 to)] (tgtHp true b f) M K := by
  have hp : 2 ^ b ≤ 2 ^ 10 := Nat.pow_le_pow_right (by omega) h1
  have hp0 : 0 < 2 ^ b := Nat.pow_pos (by omega)
  have e1 : IntKind.u32.wrap ((pc : Int).tdiv 4) = ((pc / 4 : Nat) : Int) := by rw [Int.tdiv_eq_ediv_of_nonneg (by omega), IntKind.wrap_u32]; omega
  have e2 : IntKind.u32.wrap (((2 ^ b : Nat) : Int) - 1) = ((2 ^ b - 1 : Nat) : Int) := by rw [IntKind.wrap_u32]; omega
  have ha : slot b pc < 2 ^ b := Nat.mod_lt _ hp0
  repeat ((conv => whnf); (first | refine Cnd.yes ?_ | refine Cnd.no ?_ | refine And.intro rfl ?_ | refine And.intro (by omega) ?_ | (refine And.intro ?_ ?_; focus (simp only [IntKind.wrap_i64, IntKind.wrap_u64, IntKind.wrap_u32]; omega)) | (refine And.intro ?_ ?_; focus (simp only [zl1, zl2, zl3, zl4, zl5, zl6, zl7, zl8] <;> omega))))
  conv => whnf
  rw [shl32 (by omega), e1, e2, and32 (by omega) (by omega), show pc / 4 % 2 ^ b = slot b pc from rfl]
  repeat ((conv => whnf); (first | refine Cnd.yes ?_ | refine Cnd.no ?_ | refine And.intro rfl ?_ | refine And.intro (by omega) ?_ | (refine And.intro ?_ ?_; focus (simp only [IntKind.wrap_i64, IntKind.wrap_u64, IntKind.wrap_u32]; omega)) | (refine And.intro ?_ ?_; focus (simp only [zl1, zl2, zl3, zl4, zl5, zl6, zl7, zl8] <;> omega))))
  conv => whnf
  rw [Int.toNat_natCast]
  repeat ((conv => whnf); (first | refine Cnd.yes ?_ | refine Cnd.no ?_ | refine And.intro rfl ?_ | refine And.intro (by omega) ?_ | (refine And.intro ?_ ?_; focus (simp only [IntKind.wrap_i64, IntKind.wrap_u64, IntKind.wrap_u32]; omega)) | (refine And.intro ?_ ?_; focus (simp only [zl1, zl2, zl3, zl4, zl5, zl6, zl7, zl8] <;> omega))))
  conv => whnf
  refine Kat hK ?_
  unfold tgtHp
  rw [Nat.zero_add, tblOf_get _ ha, tblOf_set _ ha]
  refine congrArg (fun l => [_, Ent.row true 72 _ l]) (tblOf_congr fun i _ => ?_)
  simp only [trow, seenF]
  split <;> rfl
theorem target_run (o : Bool) (M : HL) (K : SV → List Ent → HL → Prop) (b pc : Nat) (f : Nat → Tg) (h1 : b ≤ 10) (h3 : pc < 4294967296)
    (hK : K (.tup [.v (.int .u32 (if (f (slot b pc)).is = true ∧ (f (slot b pc)).pc = pc then (f (slot b pc)).to else 0)), .v (.bool (decide ((f (slot b pc)).is = true ∧ (f (slot b pc)).pc = pc)))]) (tgtHp o b f) M) :
    runF G0 pf13 [.ptr 0 0 0 0, .v (.int .u32 pc)] (tgtHp o b f) M K := by
  have hp : 2 ^ b ≤ 2 ^ 10 := Nat.pow_le_pow_right (by omega) h1
  have hp0 : 0 < 2 ^ b := Nat.pow_pos (by omega)
  have e1 : IntKind.u32.wrap ((pc : Int).tdiv 4) = ((pc / 4 : Nat) : Int) := by rw [Int.tdiv_eq_ediv_of_nonneg (by omega), IntKind.wrap_u32]; omega
  have e2 : IntKind.u32.wrap (((2 ^ b : Nat) : Int) - 1) = ((2 ^ b - 1 : Nat) : Int) := by rw [IntKind.wrap_u32]; omega
  have ha : slot b pc < 2 ^ b := Nat.mod_lt _ hp0
  cases o
  all_goals
    repeat ((conv => whnf); (first | refine Cnd.yes ?_ | refine Cnd.no ?_ | refine And.intro rfl ?_ | refine And.intro (by omega) ?_ | (refine And.intro ?_ ?_; focus (simp only [IntKind.wrap_i64, IntKind.wrap_u64, IntKind.wrap_u32]; omega)) | (refine And.intro ?_ ?_; focus (simp only [zl1, zl2, zl3, zl4, zl5, zl6, zl7, zl8] <;> omega))))
    conv => whnf
    rw [shl32 (by omega), e1, e2, and32 (by omega) (by omega), show pc / 4 % 2 ^ b = slot b pc from rfl]
    repeat ((conv => whnf); (first | refine Cnd.yes ?_ | refine Cnd.no ?_ | refine And.intro rfl ?_ | refine And.intro (by omega) ?_ | (refine And.intro ?_ ?_; focus (simp only [IntKind.wrap_i64, IntKind.wrap_u64, IntKind.wrap_u32]; omega)) | (refine And.intro ?_ ?_; focus (simp only [zl1, zl2, zl3, zl4, zl5, zl6, zl7, zl8] <;> omega))))
    conv => whnf
    rw [Int.toNat_natCast]
    repeat ((conv => whnf); (first | refine Cnd.yes ?_ | refine Cnd.no ?_ | refine And.intro rfl ?_ | refine And.intro (by omega) ?_ | (refine And.intro ?_ ?_; focus (simp only [IntKind.wrap_i64, IntKind.wrap_u64, IntKind.wrap_u32]; omega)) | (refine And.intro ?_ ?_; focus (simp only [zl1, zl2, zl3, zl4, zl5, zl6, zl7, zl8] <;> omega))))
    conv => whnf
    rw [Nat.zero_add, tblOf_cell _ ha]
    refine Cnd.mk (fun h => ?_) fun h => ?_
    · have h : (f (slot b pc)).is = false := by simpa [trow, toB] using h
      repeat ((conv => whnf); (first | refine Cnd.yes ?_ | refine Cnd.no ?_ | refine And.intro rfl ?_ | refine And.intro (by omega) ?_ | (refine And.intro ?_ ?_; focus (simp only [IntKind.wrap_i64, IntKind.wrap_u64, IntKind.wrap_u32]; omega)) | (refine And.intro ?_ ?_; focus (simp only [zl1, zl2, zl3, zl4, zl5, zl6, zl7, zl8] <;> omega))))
      conv => whnf
      rw [h] at hK
      simpa using hK
    · have h : (f (slot b pc)).is = true := by simpa [trow, toB] using h
      repeat ((conv => whnf); (first | refine Cnd.yes ?_ | refine Cnd.no ?_ | refine And.intro rfl ?_ | refine And.intro (by omega) ?_ | (refine And.intro ?_ ?_; focus (simp only [IntKind.wrap_i64, IntKind.wrap_u64, IntKind.wrap_u32]; omega)) | (refine And.intro ?_ ?_; focus (simp only [zl1, zl2, zl3, zl4, zl5, zl6, zl7, zl8] <;> omega))))
      conv => whnf
      rw [Nat.zero_add, tblOf_cell _ ha]
      refine Cnd.mk (fun h2 => ?_) fun h2 => ?_
      · have h2 : ¬ (f (slot b pc)).pc = pc := by simp [trow, toI] at h2; omega
        repeat ((conv => whnf); (first | refine Cnd.yes ?_ | refine Cnd.no ?_ | refine And.intro rfl ?_ | refine And.intro (by omega) ?_ | (refine And.intro ?_ ?_; focus (simp only [IntKind.wrap_i64, IntKind.wrap_u64, IntKind.wrap_u32]; omega)) | (refine And.intro ?_ ?_; focus (simp only [zl1, zl2, zl3, zl4, zl5, zl6, zl7, zl8] <;> omega))))
        conv => whnf
        rw [if_neg (fun h => h2 h.2), decide_eq_false (fun h => h2 h.2)] at hK
        exact hK
      · have h2 : (f (slot b pc)).pc = pc := by simp [trow, toI] at h2; omega
        repeat ((conv => whnf); (first | refine Cnd.yes ?_ | refine Cnd.no ?_ | refine And.intro rfl ?_ | refine And.intro (by omega) ?_ | (refine And.intro ?_ ?_; focus (simp only [IntKind.wrap_i64, IntKind.wrap_u64, IntKind.wrap_u32]; omega)) | (refine And.intro ?_ ?_; focus (simp only [zl1, zl2, zl3, zl4, zl5, zl6, zl7, zl8] <;> omega))))
        conv => whnf
        rw [Nat.zero_add, tblOf_cell _ ha]
        rw [if_pos ⟨h, h2⟩, decide_eq_true ⟨h, h2⟩] at hK
        exact hK
def seenS : Vc.Spec := fun args hp _ K => ∃ b pc to f, args = [.ptr 0 0 0 0, .v (.int .u32 (pc : Nat)), .v (.int .u32 (to : Nat))] ∧ hp = tgtHp true b f ∧ b ≤ 10 ∧ pc < 4294967296 ∧ K (.tup []) (tgtHp true b (seenF b pc to f))
theorem seen_ok : SOK Tryd.prog 12 seenS := by
  refine TOK.weaken (runF_eq G0_ok mixed at12.1 at12.2 pf12_eq) fun args hp M K h => ?_
  obtain ⟨b, pc, to, f, rfl, rfl, h1, h2, h3⟩ := h
  exact seen_run M K b pc to f h1 h2 h3
def targetS : Vc.Spec := fun args hp _ K => ∃ o b pc f, args = [.ptr 0 0 0 0, .v (.int .u32 (pc : Nat))] ∧ hp = tgtHp o b f ∧ b ≤ 10 ∧ pc < 4294967296 ∧
  K (.tup [.v (.int .u32 (if (f (slot b pc)).is = true ∧ (f (slot b pc)).pc = pc then (f (slot b pc)).to else 0)), .v (.bool (decide ((f (slot b pc)).is = true ∧ (f (slot b pc)).pc = pc)))]) (tgtHp o b f)
theorem target_ok : SOK Tryd.prog 13 targetS := by
  refine TOK.weaken (runF_eq G0_ok mixed at13.1 at13.2 pf13_eq) fun args hp M K h => ?_
  obtain ⟨o, b, pc, f, rfl, rfl, h1, h2, h3⟩ := h
  exact target_run o M K b pc f h1 h2 h3
end Go.Proofs.YtmhgiffhmcigpaaDoor
