/-
  Table.at, walked.
-/
import Derived.Test.YtmhgiffhmcigpaaDoorCe
namespace Go.Proofs.YtmhgiffhmcigpaaDoor
open Go Go.Vc
set_option maxRecDepth 100000
set_option linter.unusedSimpArgs false
set_option linter.unusedVariables false
/-- Where a table keeps what it knows of a place. -/
def atI (b pc h : Nat) : Nat := ((pc / 4) ^^^ h) % 2 ^ b
def tblHp (b h : Nat) (c : Nat → Int) : List Ent := [.cells 62 [.v (.int .i64 b), .slc 1 1 0 (2 ^ b), .v (.int .u32 h)], .row true 5 [.int .u8] (fill c (2 ^ b) (2 ^ b))]
theorem at_run (M : HL) (K : SV → List Ent → HL → Prop) (b h pc : Nat) (c : Nat → Int) (h1 : b ≤ 10) (h2 : h < 2 ^ b) (h3 : pc < 4294967296) (hK : K (.ptr 1 1 (atI b pc h) 0) (tblHp b h c) M) :
    runF G0 pf28 [.ptr 0 0 0 0, .v (.int .u32 pc)] (tblHp b h c) M K := by
  have hp : 2 ^ b ≤ 2 ^ 10 := Nat.pow_le_pow_right (by omega) h1
  have hp0 : 0 < 2 ^ b := Nat.pow_pos (by omega)
  have e1 : IntKind.u32.wrap ((pc : Int).tdiv 4) = ((pc / 4 : Nat) : Int) := by rw [Int.tdiv_eq_ediv_of_nonneg (by omega), IntKind.wrap_u32]; omega
  have e2 : IntKind.u32.wrap (((2 ^ b : Nat) : Int) - 1) = ((2 ^ b - 1 : Nat) : Int) := by rw [IntKind.wrap_u32]; omega
  have hx : (pc / 4) ^^^ h < 4294967296 := Nat.xor_lt_two_pow (n := 32) (by omega) (by omega)
  conv => whnf
  refine ⟨by omega, ?_⟩
  conv => whnf
  refine ⟨by omega, ?_⟩
  rw [shl32 (by omega), e1, xor32 (by omega) (by omega)]
  conv => whnf
  rw [e2, and32 hx (by omega)]
  refine ⟨by omega, by have := Nat.mod_lt ((pc / 4) ^^^ h) hp0; omega, ?_⟩
  rw [Int.toNat_natCast, Nat.zero_add]
  conv => whnf
  rw [Nat.zero_add]
  exact hK
end Go.Proofs.YtmhgiffhmcigpaaDoor
