/-
  Numbers.
-/
import Derived.Test.YtkfkoldaeplckaaDoorVcs
import Derived.IntWalk
set_option linter.unusedSimpArgs false
set_option linter.unusedVariables false

namespace Go.Vc
theorem and3 (x : Int) : ((BitVec.ofInt 32 x &&& BitVec.ofInt 32 3).toNat : Int) = x % 4 := by
  rw [BitVec.toNat_and]
  have h : (BitVec.ofInt 32 3).toNat = 2 ^ 2 - 1 := by decide
  rw [h, Nat.and_two_pow_sub_one_eq_mod, BitVec.toNat_ofInt]
  omega
theorem and3' (x : Int) : ((BitVec.ofInt IntKind.u32.bits x &&& BitVec.ofInt IntKind.u32.bits 3).toNat : Int) = x % 4 := and3 x
theorem mask2 : IntKind.u32.wrap (IntKind.u32.wrap (1 * 2 ^ min (if (0 : Int) > 2 then (0 : Int) else 2).toNat IntKind.u32.bits) - 1) = 3 := by
  rw [if_neg (by omega)]
  simp [IntKind.wrap_u32, IntKind.bits]
/-- word.Bits(s, 2*(i%16), 2), as a byte. -/
def seedC (s : Int) (i : Nat) : Int := (s / 4 ^ (i % 16)) % 4
theorem seedC_eq (s : Int) (i : Nat) : IntKind.u8.wrap (IntKind.u32.wrap ((BitVec.ofInt IntKind.u32.bits (s.fdiv (2 ^ min (IntKind.i64.wrap (2 * (i : Int).tmod 16)).toNat IntKind.u32.bits)) &&&
    BitVec.ofInt IntKind.u32.bits (IntKind.u32.wrap (IntKind.u32.wrap (1 * 2 ^ min (if (0 : Int) > 2 then (0 : Int) else 2).toNat IntKind.u32.bits) - 1))).toNat : Int)) = seedC s i := by
  have e3 : Int.tmod (i : Int) 16 = ((i % 16 : Nat) : Int) := by rw [Int.tmod_eq_emod_of_nonneg (by omega)]; omega
  have e6 : min (IntKind.i64.wrap (2 * (i : Int).tmod 16)).toNat IntKind.u32.bits = 2 * (i % 16) := by
    rw [e3, IntKind.wrap_i64]; simp only [IntKind.bits]; omega
  rw [mask2, e6]
  rw [and3', IntKind.wrap_u32, IntKind.wrap_u8, Int.fdiv_eq_ediv_of_nonneg _ (Int.le_of_lt (Int.pow_pos (by decide)))]
  unfold seedC
  have : (2 : Int) ^ (2 * (i % 16)) = 4 ^ (i % 16) := by rw [Int.pow_mul]; rfl
  rw [this]
  omega
theorem ofInt32 {x : Nat} (h : x < 4294967296) : (BitVec.ofInt IntKind.u32.bits (x : Int)).toNat = x := by
  change (BitVec.ofInt 32 (x : Int)).toNat = x
  rw [BitVec.toNat_ofInt]; omega
theorem xor32 {x y : Nat} (hx : x < 4294967296) (hy : y < 4294967296) : IntKind.u32.wrap ((BitVec.ofInt IntKind.u32.bits (x : Int) ^^^ BitVec.ofInt IntKind.u32.bits (y : Int)).toNat : Int) = ((x ^^^ y : Nat) : Int) := by
  rw [BitVec.toNat_xor, ofInt32 hx, ofInt32 hy, IntKind.wrap_u32]
  have : x ^^^ y < 2 ^ 32 := Nat.xor_lt_two_pow (by omega) (by omega)
  omega
theorem and32 {x b : Nat} (hx : x < 4294967296) (hb : b ≤ 31) : IntKind.u32.wrap ((BitVec.ofInt IntKind.u32.bits (x : Int) &&& BitVec.ofInt IntKind.u32.bits ((2 ^ b - 1 : Nat) : Int)).toNat : Int) = ((x % 2 ^ b : Nat) : Int) := by
  have hp : 2 ^ b ≤ 2 ^ 31 := Nat.pow_le_pow_right (by omega) hb
  have hp0 : 0 < 2 ^ b := Nat.pow_pos (by omega)
  rw [BitVec.toNat_and, ofInt32 hx, ofInt32 (x := 2 ^ b - 1) (by omega), Nat.and_two_pow_sub_one_eq_mod, IntKind.wrap_u32]
  have := Nat.mod_lt x hp0
  omega
theorem shl32 {b : Nat} (hb : b ≤ 31) : IntKind.u32.wrap (1 * 2 ^ (min (b : Int).toNat IntKind.u32.bits)) = ((2 ^ b : Nat) : Int) := by
  have h : min (b : Int).toNat IntKind.u32.bits = b := by simp only [IntKind.bits]; omega
  have hp : 2 ^ b ≤ 2 ^ 31 := Nat.pow_le_pow_right (by omega) hb
  have he : (1 : Int) * 2 ^ b = ((2 ^ b : Nat) : Int) := by simp
  rw [h, he, IntKind.wrap_u32]
  generalize 2 ^ b = n at hp
  omega
end Go.Vc
/-
  Small helps for walks.
-/
namespace Go.Vc
theorem Cnd.ff {b : Bool} {A B : Prop} (h : b = false) (k : B) : Cnd b A B := ⟨fun h' => (by rw [h] at h'; cases h'), fun _ => k⟩
theorem Cnd.tt {b : Bool} {A B : Prop} (h : b = true) (k : A) : Cnd b A B := ⟨fun _ => k, fun h' => (by rw [h] at h'; cases h')⟩
theorem TOK.weaken {P : Program} {f : FuncId} {T T' : Trans} (h : TOK P f T) (hw : ∀ args hp M K, T' args hp M K → T args hp M K) : TOK P f T' :=
  ⟨h.1, fun args hp M K hk => h.2 args hp M K (hw _ _ _ _ hk)⟩
/-- A contract whose answer is told more weakly: names of its own renamed or dropped. -/
theorem TOK.out {P : Program} {f : FuncId} {T : Trans} (h : TOK P f T) : TOK P f fun args hp M K => T args hp M fun v hp2 M2 => ∃ m v' hp', Wk (llen hp) m [v] hp2 [v'] hp' (K v' hp' M2) := by
  refine ⟨h.1, fun args hp M K hk ρ F w vs H hD => (h.2 args hp M _ hk ρ F w vs H hD).mono ?_⟩
  rintro e w' ⟨v, he, sv, ρ', hp', M', F', ⟨m, v', hp2, hw⟩, hl, hx, H', hF, hS, hd⟩
  rw [llen_eq] at hw
  obtain ⟨hK, ρ2, H2, hD2, hx2, hl2⟩ := Wk_spec hw H' (ys := [v]) (by simp only [DenL, and_true]; exact hd)
  simp only [DenL, and_true] at hD2
  exact ⟨v, he, v', ρ2, hp2, M', F', hK, hl2, hx.trans hx2, H2, hF, hS, hD2⟩
theorem Kat {K : SV → List Ent → HL → Prop} {v : SV} {a b : List Ent} {M : HL} (hK : K v b M) (e : a = b) : K v a M := e ▸ hK
theorem Kat2 {K : SV → List Ent → HL → Prop} {v v' : SV} {a b : List Ent} {M : HL} (hK : K v b M) (e : a = b) (e' : v' = v) : K v' a M := e ▸ e' ▸ hK
theorem or32 {x y : Nat} (hx : x < 4294967296) (hy : y < 4294967296) : IntKind.u32.wrap ((BitVec.ofInt IntKind.u32.bits (x : Int) ||| BitVec.ofInt IntKind.u32.bits (y : Int)).toNat : Int) = ((x ||| y : Nat) : Int) := by
  rw [BitVec.toNat_or, ofInt32 hx, ofInt32 hy, IntKind.wrap_u32]
  have : x ||| y < 2 ^ 32 := Nat.or_lt_two_pow (by omega) (by omega)
  omega
/-- A loop's states: what is measured, what holds, the slots, the heap. -/
def InvS {σ : Type} (nt : Nat) (ms : σ → Nat) (C : σ → Prop) (sl : σ → List (Nat × SV)) (hs : σ → List Ent) (M : HL) : Nat → List SV → List Ent → HL → Prop :=
  fun cnt tm hp M' => ∃ s, C s ∧ cnt = ms s ∧ M' = M ∧ tmkK nt 0 (sl s) (fun l => tm = l) ∧ hp = hs s
theorem InvS.mk {σ : Type} {nt : Nat} {ms : σ → Nat} {C : σ → Prop} {sl : σ → List (Nat × SV)} {hs : σ → List Ent} {M : HL} {s : σ} (h : C s) : InvS nt ms C sl hs M (ms s) (tmk nt 0 (sl s)) (hs s) M := ⟨s, h, rfl, rfl, (tmkK_eq _ _ _ _).mpr rfl, rfl⟩
/-- A loop's states, where what is known to stay may grow. -/
def InvG {σ : Type} (nt : Nat) (ms : σ → Nat) (C : σ → HL → Prop) (sl : σ → List (Nat × SV)) (hs : σ → List Ent) : Nat → List SV → List Ent → HL → Prop :=
  fun cnt tm hp M' => ∃ s, C s M' ∧ cnt = ms s ∧ tmkK nt 0 (sl s) (fun l => tm = l) ∧ hp = hs s
/-- A word as a row of one cell. -/
def wrow (x : Nat) : List Value := [.int .u32 x]
theorem toI_w {l : List Nat} {i : Nat} (hi : i < l.length) : toI (cellAt (l.map wrow) (0 + (i : Int).toNat) 0) = ((l.getD i 0 : Nat) : Int) := by
  rw [Nat.zero_add, Int.toNat_natCast]
  simp [cellAt, List.getD, hi, wrow, toI]
def irow (x : Int) : List Value := [.int .i64 x]
theorem toI_i {l : List Int} {i : Nat} (hi : i < l.length) : toI (cellAt (l.map irow) (0 + (i : Int).toNat) 0) = l.getD i 0 := by
  rw [Nat.zero_add, Int.toNat_natCast]
  simp [cellAt, List.getD, hi, irow, toI]
theorem cell_mid {α : Type} (f : α → List Value) (P Q : List α) (x : α) (j k : Nat) (hj : j = P.length) : cellAt ((P ++ x :: Q).map f) (0 + (j : Int).toNat) k = (f x).getD k undef := by
  subst hj
  simp [cellAt, List.getD]
theorem set_mid {α : Type} (f : α → List Value) (P Q : List α) (x y : α) (j o : Nat) (vs : List Value) (hj : j = P.length) (hy : over (f x) o vs = f y) : ((P ++ x :: Q).map f).set (0 + (j : Int).toNat) (over (((P ++ x :: Q).map f).getD (0 + (j : Int).toNat) []) o vs) = (P ++ y :: Q).map f := by
  subst hj
  have e : ((P ++ x :: Q).map f).getD (0 + (P.length : Int).toNat) [] = f x := by simp [List.getD]
  rw [e, hy]
  simp
/-- A block that is the call's own, or one that is only read. -/
def cellsB (o : Bool) (e : TypeId) (vs : List SV) : Ent := match o with | true => .cells e vs | false => .rcells e vs
/-- The rows of a table that is known by places. -/
def tblOf (f : Nat → List Value) (n : Nat) : List (List Value) := (List.range n).map f
theorem tblOf_len (f : Nat → List Value) (n : Nat) : (tblOf f n).length = n := by simp [tblOf]
theorem tblOf_get (f : Nat → List Value) {i n : Nat} (hi : i < n) : (tblOf f n).getD i [] = f i := by simp [tblOf, List.getD, hi]
theorem tblOf_cell (f : Nat → List Value) {i n : Nat} (hi : i < n) (k : Nat) : cellAt (tblOf f n) i k = (f i).getD k undef := by rw [cellAt, tblOf_get f hi]
theorem tblOf_set (f : Nat → List Value) {i n : Nat} (hi : i < n) (r : List Value) : (tblOf f n).set i r = tblOf (fun j => if j = i then r else f j) n := by
  apply List.ext_getElem?
  intro j
  by_cases hj : i = j
  · subst hj
    rw [List.getElem?_set_self (by simpa [tblOf] using hi)]
    simp [tblOf, hi]
  · rw [List.getElem?_set_ne hj]
    simp only [tblOf, List.getElem?_map]
    by_cases hjn : j < n
    · simp [hjn, show ¬ j = i from fun h => hj h.symm]
    · simp [List.getElem?_eq_none (show (List.range n).length ≤ j by simp; omega)]
theorem tblOf_congr {f g : Nat → List Value} {n : Nat} (h : ∀ i, i < n → f i = g i) : tblOf f n = tblOf g n := by
  unfold tblOf
  exact List.map_congr_left fun i hi => h i (List.mem_range.1 hi)
/-- The i-th of what a call is handed gets a name, which is forgotten behind the call. -/
def openAtG (T : Trans) (i : Nat) : Trans := openAt (fun args hp M K => T args hp M fun v hp' M' => eset .gone hp' (llen hp - 1) fun hp2 => K v hp2 M') i
theorem openAtG_ok {P : Program} {f : FuncId} {T : Trans} (hT : TOK P f T) (i : Nat) : TOK P f (openAtG T i) := by
  refine openAt_ok (T := fun args hp M K => T args hp M fun v hp' M' => eset .gone hp' (llen hp - 1) fun hp2 => K v hp2 M') ⟨hT.1, fun args hp M K h ρ F w vs H hD => ?_⟩ i
  refine (hT.2 _ _ M _ h ρ F w vs H hD).mono fun e w' ⟨v, he, sv, ρ', hp', M', F', h1, h2, h3, h4, h5⟩ => ⟨v, he, sv, ρ', _, M', F', (eset_iff _ _ _ _).1 h1, by simpa using h2, h3, h4.drop _, h5⟩
/-! Short names of laws (a claim's text has a greatest length). -/
theorem zq1 {α : Type} [BEq α] [LawfulBEq α] {a b : α} : ((a == b) = true) = (a = b) := propext beq_iff_eq
theorem zq2 {α : Type} [BEq α] [LawfulBEq α] {a b : α} : ((a != b) = true) = (a ≠ b) := propext bne_iff_ne
theorem zq3 {α : Type} [BEq α] [LawfulBEq α] {a b : α} : ((a == b) = false) = (a ≠ b) := propext beq_eq_false_iff_ne
theorem zq4 {α : Type} [BEq α] [LawfulBEq α] {a b : α} : ((a != b) = false) = (a = b) := propext bne_eq_false_iff_eq
theorem zq5 {α : Type} (a b : α) : (a ≠ b) = ¬ (a = b) := ne_eq a b
theorem zq6 (b : Bool) : ((!b) = true) = (b = false) := Bool.not_eq_true' b
theorem zq7 (b : Bool) : ((!b) = false) = (b = true) := Bool.not_eq_false' b
theorem zq8 {a b : Bool} : ((!a) = b) = (a = !b) := propext Bool.not_eq_eq_eq_not
theorem zq9 : (!true) = false := Bool.not_true
theorem zq10 : (!false) = true := Bool.not_false
theorem zq11 {p : Prop} [Decidable p] : (decide p = true) = p := decide_eq_true_eq
theorem zq12 {p : Prop} [Decidable p] : (decide p = false) = ¬ p := propext decide_eq_false_iff_not
theorem zl1 {α β : Type} (f : α → β) (l : List α) : (l.map f).length = l.length := List.length_map f
theorem zl2 {α : Type} {a b : List α} : (a ++ b).length = a.length + b.length := List.length_append
theorem zl3 {α : Type} {a : α} {b : List α} : (a :: b).length = b.length + 1 := List.length_cons
theorem zl4 {α : Type} : ([] : List α).length = 0 := List.length_nil
theorem zl5 {α : Type} {n : Nat} {l : List α} : (l.take n).length = min n l.length := List.length_take
theorem zl6 {α : Type} {n : Nat} {l : List α} : (l.drop n).length = l.length - n := List.length_drop
theorem zl7 {α : Type} {n : Nat} {a : α} : (List.replicate n a).length = n := List.length_replicate
theorem zl9 {α : Type} {l : List α} {i : Nat} {a : α} : (l.set i a).length = l.length := List.length_set
theorem zl8 (f : Nat → List Value) (n : Nat) : (tblOf f n).length = n := tblOf_len f n
/-- The states where ways meet. -/
def InvC {σ : Type} (nt : Nat) (C : σ → Prop) (sl : σ → List (Nat × SV)) (hs : σ → List Ent) (M : HL) : List SV → List Ent → HL → Prop :=
  fun tm hp M' => ∃ s, C s ∧ M' = M ∧ tmkK nt 0 (sl s) (fun l => tm = l) ∧ hp = hs s
/-! ### Steps that find their own proofs -/
theorem ctt {b : Bool} {A B : Prop} (k : A) (h : b = true := by first | (apply decide_eq_true; omega) | (simp only [zq1, zq2, zq3, zq4, zq5, zq6, zq7, zq8, zq9, zq10, zq11, zq12] <;> omega) | rfl | assumption) : Cnd b A B := Cnd.tt h k
theorem cff {b : Bool} {A B : Prop} (k : B) (h : b = false := by first | (apply decide_eq_false; omega) | (simp only [zq1, zq2, zq3, zq4, zq5, zq6, zq7, zq8, zq9, zq10, zq11, zq12] <;> omega) | rfl | assumption) : Cnd b A B := Cnd.ff h k
theorem aom {p q : Prop} (k : q) (h : p := by first | omega | (simp only [IntKind.wrap_i64, IntKind.wrap_u64, IntKind.wrap_u32]; omega) | (simp only [zl1, zl2, zl3, zl4, zl5, zl6, zl7, zl8, zl9] <;> omega)) : p ∧ q := ⟨h, k⟩
end Go.Vc
