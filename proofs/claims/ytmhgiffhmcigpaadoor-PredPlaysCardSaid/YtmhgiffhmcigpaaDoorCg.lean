/-
  Table.Learn, walked.
-/
import Derived.Test.YtmhgiffhmcigpaaDoorCf
namespace Go.Proofs.YtmhgiffhmcigpaaDoor
open Go Go.Vc
set_option maxRecDepth 100000
set_option linter.unusedSimpArgs false
set_option linter.unusedVariables false
def learnC (b h pc : Nat) (tk : Bool) (c : Nat → Int) (j : Nat) : Int :=
  if j = atI b pc h then (if tk then min (c j + 1) 3 else if 0 < c j then c j - 1 else c j) else c j
def learnH (b h : Nat) (tk : Bool) : Nat := (2 * h) % 2 ^ b ||| (if tk then 1 else 0)
theorem fill_get (c : Nat → Int) {i n : Nat} (hi : i < n) : (fill c n n).getD i [] = [.int .u8 (c i)] := by
  simp [fill, List.getD, hi]
theorem fill_set (c d : Nat → Int) {i n : Nat} (hi : i < n) (x : Int) (hx : d i = x) (ho : ∀ j, j ≠ i → d j = c j) : (fill c n n).set i [.int .u8 x] = fill d n n := by
  apply List.ext_getElem?
  intro j
  by_cases hj : i = j
  · subst hj
    rw [List.getElem?_set_self (by simpa [fill] using hi)]
    simp [fill, hi, hx]
  · rw [List.getElem?_set_ne hj]
    simp only [fill, List.getElem?_map]
    by_cases hjn : j < n
    · simp [List.getElem?_range hjn, hjn, ho j (fun h => hj h.symm)]
    · simp [List.getElem?_eq_none (show (List.range n).length ≤ j by simp; omega)]
theorem cell_fill (c : Nat → Int) {i n : Nat} (hi : i < n) : cellAt (fill c n n) i 0 = .int .u8 (c i) := by
  unfold cellAt
  rw [fill_get c hi]
  rfl
theorem learn_fill (b h pc : Nat) (tk : Bool) (c : Nat → Int) (x : Int) (hx : learnC b h pc tk c (atI b pc h) = x) :
    (fill c (2 ^ b) (2 ^ b)).set (atI b pc h) (over ((fill c (2 ^ b) (2 ^ b)).getD (atI b pc h) []) 0 [Value.int .u8 x]) = fill (learnC b h pc tk c) (2 ^ b) (2 ^ b) := by
  have ha : atI b pc h < 2 ^ b := Nat.mod_lt _ (Nat.pow_pos (by omega))
  rw [fill_get c ha]
  refine fill_set c _ ha x hx fun j hj => ?_
  unfold learnC
  rw [if_neg hj]
theorem learn_run (M : HL) (K : SV → List Ent → HL → Prop) (b h pc : Nat) (tk : Bool) (c : Nat → Int) (h1 : b ≤ 10) (h2 : h < 2 ^ b) (h3 : pc < 4294967296)
    (hc : ∀ i, 0 ≤ c i ∧ c i ≤ 3) (hK : K (.tup []) (tblHp b (learnH b h tk) (learnC b h pc tk c)) M) :
    runF G0 pf9 [.ptr 0 0 0 0, .v (.int .u32 pc), .v (.bool tk)] (tblHp b h c) M K := by
  have hp : 2 ^ b ≤ 2 ^ 10 := Nat.pow_le_pow_right (by omega) h1
  have hp0 : 0 < 2 ^ b := Nat.pow_pos (by omega)
  have e1 : IntKind.u32.wrap ((pc : Int).tdiv 4) = ((pc / 4 : Nat) : Int) := by rw [Int.tdiv_eq_ediv_of_nonneg (by omega), IntKind.wrap_u32]; omega
  have e2 : IntKind.u32.wrap (((2 ^ b : Nat) : Int) - 1) = ((2 ^ b - 1 : Nat) : Int) := by rw [IntKind.wrap_u32]; omega
  have hx : (pc / 4) ^^^ h < 4294967296 := Nat.xor_lt_two_pow (n := 32) (by omega) (by omega)
  have e4 : IntKind.u32.wrap ((h : Int) * 2 ^ min (Int.toNat 1) IntKind.u32.bits) = ((2 * h : Nat) : Int) := by
    have : min (Int.toNat 1) IntKind.u32.bits = 1 := by decide
    rw [this, IntKind.wrap_u32]; omega
  have ha : atI b pc h < 2 ^ b := Nat.mod_lt _ hp0
  have hca := hc (atI b pc h)
  have hm : (2 * h) % 2 ^ b < 2 ^ b := Nat.mod_lt _ hp0
  conv => whnf
  refine ⟨by omega, ?_⟩
  conv => whnf
  refine ⟨by omega, ?_⟩
  rw [shl32 (by omega), e1, xor32 (by omega) (by omega)]
  conv => whnf
  rw [e2, and32 hx (by omega)]
  refine ⟨by omega, by have := Nat.mod_lt ((pc / 4) ^^^ h) hp0; omega, ?_⟩
  rw [Int.toNat_natCast, Nat.zero_add, show (pc / 4 ^^^ h) % 2 ^ b = atI b pc h from rfl]
  conv => whnf
  refine ⟨by omega, ?_⟩
  conv => whnf
  refine ⟨by omega, ?_⟩
  rw [shl32 (by omega)]
  conv => whnf
  rw [e4, e2, and32 (by omega) (by omega)]
  refine Cnd.mk (fun htk => ?_) fun htk => ?_
  · subst htk
    conv => whnf
    refine ⟨by simp [fill]; omega, ?_⟩
    conv => whnf
    refine ⟨by simp [fill]; omega, ?_⟩
    conv => whnf
    have eo := or32 (x := 2 * h % 2 ^ b) (y := 1) (by omega) (by omega)
    rw [show ((1 : Nat) : Int) = 1 from rfl] at eo
    rw [eo, Nat.zero_add, cell_fill c ha]
    refine Kat hK ?_
    unfold tblHp learnH
    rw [learn_fill b h pc true c]
    · rfl
    · simp only [learnC, toI, if_true, IntKind.wrap_u8]
      split <;> omega
  · subst htk
    conv => whnf
    refine ⟨by simp [fill]; omega, ?_⟩
    conv => whnf
    rw [Nat.zero_add, cell_fill c ha]
    refine Cnd.mk (fun h0 => ?_) fun h0 => ?_
    · have h0' : 0 < c (atI b pc h) := by simpa [toI] using h0
      conv => whnf
      refine ⟨by simp [fill]; omega, ?_⟩
      conv => whnf
      refine ⟨by simp [fill]; omega, ?_⟩
      conv => whnf
      refine Kat hK ?_
      unfold tblHp learnH
      rw [cell_fill c ha, learn_fill b h pc false c]
      · simp
      · simp only [learnC, toI, if_true, IntKind.wrap_u8]
        rw [if_neg (by decide), if_pos h0']
        omega
    · have h0' : ¬ 0 < c (atI b pc h) := by simpa [toI] using h0
      conv => whnf
      refine Kat hK ?_
      unfold tblHp learnH
      rw [show fill (learnC b h pc false c) (2 ^ b) (2 ^ b) = fill c (2 ^ b) (2 ^ b) from ?_]
      · simp
      · congr 1
        funext j
        simp only [learnC]
        split
        · rename_i hj
          subst hj
          rw [if_neg (by decide), if_neg h0']
        · rfl
theorem learnC_range {b h pc : Nat} {tk : Bool} {c : Nat → Int} (hc : ∀ i, 0 ≤ c i ∧ c i ≤ 3) (i : Nat) : 0 ≤ learnC b h pc tk c i ∧ learnC b h pc tk c i ≤ 3 := by
  have := hc i
  unfold learnC
  split
  · split
    · omega
    · split <;> omega
  · exact this
theorem learnH_lt {b h : Nat} {tk : Bool} (hb : 1 ≤ b) : learnH b h tk < 2 ^ b := by
  unfold learnH
  have hp0 : 0 < 2 ^ b := Nat.pow_pos (by omega)
  refine Nat.or_lt_two_pow (Nat.mod_lt _ hp0) ?_
  have := Nat.pow_le_pow_right (n := 2) (by omega) hb
  split <;> omega
end Go.Proofs.YtmhgiffhmcigpaaDoor
