/-
  Numbers.
-/
import Derived.Test.YthomcgclkbmnkaaDoorVcs
import Derived.IntWalk
namespace Go.Vc
theorem and3 (x : Int) : ((BitVec.ofInt 32 x &&& BitVec.ofInt 32 3).toNat : Int) = x % 4 := by
  rw [BitVec.toNat_and]
  have h : (BitVec.ofInt 32 3).toNat = 2 ^ 2 - 1 := by decide
  rw [h, Nat.and_two_pow_sub_one_eq_mod, BitVec.toNat_ofInt]
  omega
theorem and3' (x : Int) : ((BitVec.ofInt IntKind.u32.bits x &&& BitVec.ofInt IntKind.u32.bits 3).toNat : Int) = x % 4 := and3 x
theorem mask2 : IntKind.u32.wrap (IntKind.u32.wrap (1 * 2 ^ min (if (0 : Int) > 2 then (0 : Int) else 2).toNat IntKind.u32.bits) - 1) = 3 := by
  rw [if_neg (by omega)]
  simp [IntKind.wrap_u32, IntKind.bits]
/-- word.Bits(s, 2*(i%16), 2), as a byte. -/
def seedC (s : Int) (i : Nat) : Int := (s / 4 ^ (i % 16)) % 4
theorem seedC_eq (s : Int) (i : Nat) : IntKind.u8.wrap (IntKind.u32.wrap ((BitVec.ofInt IntKind.u32.bits (s.fdiv (2 ^ min (IntKind.i64.wrap (2 * (i : Int).tmod 16)).toNat IntKind.u32.bits)) &&&
    BitVec.ofInt IntKind.u32.bits (IntKind.u32.wrap (IntKind.u32.wrap (1 * 2 ^ min (if (0 : Int) > 2 then (0 : Int) else 2).toNat IntKind.u32.bits) - 1))).toNat : Int)) = seedC s i := by
  have e3 : Int.tmod (i : Int) 16 = ((i % 16 : Nat) : Int) := by rw [Int.tmod_eq_emod_of_nonneg (by omega)]; omega
  have e6 : min (IntKind.i64.wrap (2 * (i : Int).tmod 16)).toNat IntKind.u32.bits = 2 * (i % 16) := by
    rw [e3, IntKind.wrap_i64]; simp only [IntKind.bits]; omega
  rw [mask2, e6]
  rw [and3', IntKind.wrap_u32, IntKind.wrap_u8, Int.fdiv_eq_ediv_of_nonneg _ (Int.le_of_lt (Int.pow_pos (by decide)))]
  unfold seedC
  have : (2 : Int) ^ (2 * (i % 16)) = 4 ^ (i % 16) := by rw [Int.pow_mul]; rfl
  rw [this]
  omega
theorem ofInt32 {x : Nat} (h : x < 4294967296) : (BitVec.ofInt IntKind.u32.bits (x : Int)).toNat = x := by
  change (BitVec.ofInt 32 (x : Int)).toNat = x
  rw [BitVec.toNat_ofInt]; omega
theorem xor32 {x y : Nat} (hx : x < 4294967296) (hy : y < 4294967296) : IntKind.u32.wrap ((BitVec.ofInt IntKind.u32.bits (x : Int) ^^^ BitVec.ofInt IntKind.u32.bits (y : Int)).toNat : Int) = ((x ^^^ y : Nat) : Int) := by
  rw [BitVec.toNat_xor, ofInt32 hx, ofInt32 hy, IntKind.wrap_u32]
  have : x ^^^ y < 2 ^ 32 := Nat.xor_lt_two_pow (by omega) (by omega)
  omega
theorem and32 {x b : Nat} (hx : x < 4294967296) (hb : b ≤ 31) : IntKind.u32.wrap ((BitVec.ofInt IntKind.u32.bits (x : Int) &&& BitVec.ofInt IntKind.u32.bits ((2 ^ b - 1 : Nat) : Int)).toNat : Int) = ((x % 2 ^ b : Nat) : Int) := by
  have hp : 2 ^ b ≤ 2 ^ 31 := Nat.pow_le_pow_right (by omega) hb
  have hp0 : 0 < 2 ^ b := Nat.pow_pos (by omega)
  rw [BitVec.toNat_and, ofInt32 hx, ofInt32 (x := 2 ^ b - 1) (by omega), Nat.and_two_pow_sub_one_eq_mod, IntKind.wrap_u32]
  have := Nat.mod_lt x hp0
  omega
theorem shl32 {b : Nat} (hb : b ≤ 31) : IntKind.u32.wrap (1 * 2 ^ (min (b : Int).toNat IntKind.u32.bits)) = ((2 ^ b : Nat) : Int) := by
  have h : min (b : Int).toNat IntKind.u32.bits = b := by simp only [IntKind.bits]; omega
  have hp : 2 ^ b ≤ 2 ^ 31 := Nat.pow_le_pow_right (by omega) hb
  have he : (1 : Int) * 2 ^ b = ((2 ^ b : Nat) : Int) := by simp
  rw [h, he, IntKind.wrap_u32]
  generalize 2 ^ b = n at hp
  omega
end Go.Vc
