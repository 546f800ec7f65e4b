/-
  Symbolic execution, part C: what one operation asks and leaves ('vcOp').
-/
import Derived.Test.YthomcgclkbmnkaaDoorVcb
namespace Go.Vc

def sget : List SV → Nat → SV
  | [], _ => .any
  | s :: _, 0 => s
  | _ :: r, n + 1 => sget r n
def ev (tm : List SV) : PArg → SV
  | .t n => sget tm n
  | .c s => s
def evL (tm : List SV) : List PArg → List SV
  | [] => []
  | x :: r => ev tm x :: evL tm r
def sset (x : SV) : List SV → Nat → (List SV → Prop) → Prop
  | [], _, K => K []
  | _ :: r, 0, K => K (x :: r)
  | s :: r, n + 1, K => sset x r n fun r' => K (s :: r')
def eget : List Ent → Nat → Ent
  | [], _ => .gone
  | s :: _, 0 => s
  | _ :: r, n + 1 => eget r n
def eset (x : Ent) : List Ent → Nat → (List Ent → Prop) → Prop
  | [], _, K => K []
  | _ :: r, 0, K => K (x :: r)
  | s :: r, n + 1, K => eset x r n fun r' => K (s :: r')
def epush (x : Ent) : List Ent → (List Ent → Prop) → Prop
  | [], K => K [x]
  | s :: r, K => epush x r fun r' => K (s :: r')
def llen {α : Type} : List α → Nat
  | [] => 0
  | _ :: r => llen r + 1
def dropN {α : Type} : List α → Nat → List α
  | l, 0 => l
  | [], _ + 1 => []
  | _ :: r, n + 1 => dropN r n
def takeN {α : Type} : List α → Nat → (List α → Prop) → Prop
  | _, 0, K => K []
  | s :: r, n + 1, K => takeN r n fun l => K (s :: l)
  | [], _ + 1, _ => False
/-- 'l' laid over 'vs' from place f on. -/
def overN {α : Type} (l : List α) : List α → Nat → (List α → Prop) → Prop
  | s :: r, f + 1, K => overN l r f fun r' => K (s :: r')
  | [], _ + 1, _ => False
  | vs, 0, K => go l vs K
where go : List α → List α → (List α → Prop) → Prop
  | [], vs, K => K vs
  | x :: l, _ :: vs, K => go l vs fun r => K (x :: r)
  | _ :: _, [], _ => False

theorem sset_iff (x : SV) : ∀ (l : List SV) (n : Nat) (K : List SV → Prop), sset x l n K ↔ K (l.set n x)
  | [], _, K => by simp [sset]
  | _ :: r, 0, K => by simp [sset]
  | s :: r, n + 1, K => by simp [sset, sset_iff x r n]
theorem eset_iff (x : Ent) : ∀ (l : List Ent) (n : Nat) (K : List Ent → Prop), eset x l n K ↔ K (l.set n x)
  | [], _, K => by simp [eset]
  | _ :: r, 0, K => by simp [eset]
  | s :: r, n + 1, K => by simp [eset, eset_iff x r n]
theorem epush_iff (x : Ent) : ∀ (l : List Ent) (K : List Ent → Prop), epush x l K ↔ K (l ++ [x])
  | [], K => by simp [epush]
  | s :: r, K => by simp [epush, epush_iff x r]
theorem llen_eq {α : Type} : ∀ l : List α, llen l = l.length
  | [] => rfl
  | _ :: r => by simp [llen, llen_eq r]
theorem dropN_eq {α : Type} : ∀ (l : List α) (n : Nat), dropN l n = l.drop n
  | _, 0 => by simp [dropN]
  | [], _ + 1 => by simp [dropN]
  | _ :: r, n + 1 => by simp [dropN, dropN_eq r n]
theorem takeN_iff {α : Type} : ∀ (l : List α) (n : Nat) (K : List α → Prop), takeN l n K ↔ (n ≤ l.length ∧ K (l.take n))
  | _, 0, K => by simp [takeN]
  | s :: r, n + 1, K => by simp [takeN, takeN_iff r n]
  | [], _ + 1, _ => by simp [takeN]
theorem overN_go {α : Type} : ∀ (l vs : List α) (K : List α → Prop), overN.go l vs K ↔ (l.length ≤ vs.length ∧ K (l ++ vs.drop l.length))
  | [], vs, K => by simp [overN.go]
  | x :: l, _ :: vs, K => by simp [overN.go, overN_go l vs]
  | _ :: _, [], _ => by simp [overN.go]
theorem overN_iff {α : Type} (l : List α) : ∀ (vs : List α) (f : Nat) (K : List α → Prop), overN l vs f K ↔ (f + l.length ≤ vs.length ∧ K (vs.take f ++ l ++ vs.drop (f + l.length)))
  | s :: r, f + 1, K => by
    simp only [overN, overN_iff l r f, List.length_cons, List.take_succ_cons, List.cons_append]
    rw [show f + 1 + l.length = (f + l.length) + 1 by omega, List.drop_succ_cons]
    simp only [Nat.add_le_add_iff_right]
  | [], _ + 1, _ => by simp [overN]
  | [], 0, K => by simp [overN, overN_go]
  | s :: r, 0, K => by simp [overN, overN_go]
theorem sget_some : ∀ {l : List SV} {n : Nat} {s : SV}, l[n]? = some s → sget l n = s
  | _ :: _, 0, _, h => by simpa [sget] using h
  | _ :: r, n + 1, _, h => by unfold sget; exact sget_some (by simpa using h)
  | [], _, _, h => by simp at h
theorem sget_none : ∀ {l : List SV} {n : Nat}, l[n]? = none → sget l n = .any
  | _ :: _, 0, h => by simp at h
  | _ :: r, n + 1, h => by unfold sget; exact sget_none (by simpa using h)
  | [], _, _ => rfl
theorem eget_ne {l : List Ent} {n : Nat} {e : Ent} (h : eget l n = e) (hne : e ≠ .gone) : l[n]? = some e := by
  induction l generalizing n with
  | nil => exact absurd h.symm hne
  | cons a r ih => cases n with
    | zero => simpa [eget] using h
    | succ n => simpa [eget] using ih h

def kEq : IntKind → IntKind → Bool
  | .i8, .i8 | .i16, .i16 | .i32, .i32 | .i64, .i64 | .u8, .u8 | .u16, .u16 | .u32, .u32 | .u64, .u64 => true
  | _, _ => false
theorem kEq_eq {a b : IntKind} (h : kEq a b = true) : a = b := by cases a <;> cases b <;> first | rfl | (simp [kEq] at h)

/-! ### Reads -/
def cellAt (rows : List (List Value)) (i f : Nat) : Value := (rows.getD i []).getD f undef
def readCK (k : CK) (x : Value) (K : SV → Prop) : Prop :=
  match k with
  | .int k => K (.v (.int k (toI x)))
  | .bool => K (.v (.bool (toB x)))
  | .raw => ∀ y, y = x → y.oneCell' = true → K (.v y)
  | .sl => K (.rsl x)
def readN (rows : List (List Value)) (i : Nat) : List CK → (f n : Nat) → (List SV → Prop) → Prop
  | _, _, 0, K => K []
  | k :: r, f, n + 1, K => readCK k (cellAt rows i f) fun s => readN rows i r (f + 1) n fun l => K (s :: l)
  | [], _, _ + 1, _ => False
def mcell (M : HL) (a : Addr) : Option Value :=
  match M a.block with
  | some (.cells c _ _) => if a.spot.isSome then none else c[a.off]?
  | _ => none
def vLoadC (vs : List SV) (w f : Nat) (s : Option Nat) (K : SV → Prop) : Prop :=
  match w, s with
  | 0, none => match dropN vs f with | y :: _ => K y | [] => False
  | 0, some m => takeN (dropN vs f) m fun l => K (.agg l)
  | _ + 1, _ => False
def vLoad (s : Option Nat) (x : SV) (hp : List Ent) (M : HL) (K : SV → Prop) : Prop :=
  match x with
  | .ptr n w i f => match eget hp n with
    | .cells _ vs => vLoadC vs w f s K
    | .rcells _ vs => vLoadC vs w f s K
    | .row _ _ ck rows => match Nat.beq w (llen ck) with
      | true => i < rows.length ∧ match s with
        | none => match dropN ck f with | k :: _ => readCK k (cellAt rows i f) K | [] => False
        | some m => readN rows i (dropN ck f) f m fun l => K (.agg l)
      | false => False
    | .gone => False
  | .v (.pointer (some a)) => match s with
    | none => ∃ y, mcell M a = some y ∧ K (.v y)
    | some _ => False
  | .rpt y w i f => ∃ e ck rows, RowsIn M e ck y rows ∧ match Nat.beq w (llen ck) with
    | true => i < rows.length ∧ match s with
      | none => match dropN ck f with | k :: _ => readCK k (cellAt rows i f) K | [] => False
      | some m => readN rows i (dropN ck f) f m fun l => K (.agg l)
    | false => False
  | _ => False

/-! ### Writes -/
def SV.one : SV → Bool
  | .v x => x.oneCell'
  | .ptr .. | .slc .. | .emp | .fn .. | .ifc .. | .rsl .. | .rpt .. | .slx .. => true
  | _ => false
def flat (y : SV) (K : List SV → Prop) : Prop :=
  match y with
  | .agg l => K l
  | .tup _ | .any => False
  | .v x => K [.v x]
  | .ptr n w i f => K [.ptr n w i f]
  | .slc n w i len => K [.slc n w i len]
  | .emp => K [.emp]
  | .fn f a b => K [.fn f a b]
  | .ifc t x => K [.ifc t x]
  | .rsl y => K [.rsl y]
  | .rpt y w i f => K [.rpt y w i f]
  | .slx n w len c => K [.slx n w len c]
def oneL : List SV → Bool
  | [] => true
  | s :: r => match s.one with | true => oneL r | false => false
/-- Values that fit kinds. -/
def valsOf : List CK → List SV → (List Value → Prop) → Prop
  | _, [], K => K []
  | .int k :: r, .v (.int k' a) :: l, K => match kEq k k' with | true => valsOf r l fun vs => K (.int k a :: vs) | false => False
  | .bool :: r, .v (.bool a) :: l, K => valsOf r l fun vs => K (.bool a :: vs)
  | .raw :: r, .v x :: l, K => match x.oneCell' with | true => valsOf r l fun vs => K (x :: vs) | false => False
  | .sl :: r, .rsl y :: l, K => valsOf r l fun vs => K (y :: vs)
  | .sl :: r, .v (.slice none 0 0) :: l, K => valsOf r l fun vs => K (.slice none 0 0 :: vs)
  | _, _, _ => False
def over (r : List Value) (f : Nat) (vals : List Value) : List Value := r.take f ++ vals ++ r.drop (f + vals.length)
/-- Slices that are laid into a row: their blocks stay as they are from now on. -/
def frz1 (s : SV) (hp : List Ent) (M : HL) (K : SV → List Ent → HL → Prop) : Prop :=
  match s with
  | .emp => ∀ a, K (.rsl (.slice a 0 0)) hp M
  | .slc n w i len => match eget hp n with
    | .row true e ck rows => match Nat.beq w (llen ck) with
      | true => i + len ≤ rows.length ∧ ∀ (y : Value) (M' : HL), FLe M M' → RowsIn M' e ck y ((rows.drop i).take len) → eset (.row false e ck rows) hp n fun hp' => K (.rsl y) hp' M'
      | false => False
    | .row false e ck rows => match Nat.beq w (llen ck) with
      | true => i + len ≤ rows.length ∧ ∀ (y : Value), RowsIn M e ck y ((rows.drop i).take len) → K (.rsl y) hp M
      | false => False
    | _ => False
  | .v x => K (.v x) hp M
  | .ptr n w i f => K (.ptr n w i f) hp M
  | .agg l => K (.agg l) hp M
  | .tup l => K (.tup l) hp M
  | .fn f a b => K (.fn f a b) hp M
  | .ifc t x => K (.ifc t x) hp M
  | .rsl y => K (.rsl y) hp M
  | .rpt y w i f => K (.rpt y w i f) hp M
  | .slx n w len c => match eget hp n with
    | .row true e ck rows => match Nat.beq w (llen ck) with
      | true => len ≤ rows.length ∧ ∀ (y : Value) (M' : HL), FLe M M' → RowsIn M' e ck y (rows.take len) → scap y = c → eset (.row false e ck rows) hp n fun hp' => K (.rsl y) hp' M'
      | false => False
    | _ => False
  | .any => K .any hp M
def frzL : List SV → List Ent → HL → (List SV → List Ent → HL → Prop) → Prop
  | [], hp, M, K => K [] hp M
  | s :: r, hp, M, K => frz1 s hp M fun s' hp' M' => frzL r hp' M' fun l hp' M' => K (s' :: l) hp' M'
def hasRef : List SV → Bool
  | [] => false
  | .slc .. :: _ => true
  | .emp :: _ => true
  | .slx .. :: _ => true
  | _ :: r => hasRef r
/-- Is it a row of one's own that is written? -/
def toRow (x : SV) (hp : List Ent) : Bool :=
  match x with
  | .ptr n _ _ _ => match eget hp n with
    | .row true _ _ _ => true
    | _ => false
  | _ => false
def vStore0 (m : Nat) (x : SV) (l : List SV) (hp : List Ent) (K : List Ent → Prop) : Prop :=
  match Nat.beq (llen l) m with
  | true => match x with
    | .ptr n w i f => match eget hp n with
      | .cells e vs => match w, oneL l with
        | 0, true => overN l vs f fun vs' => eset (.cells e vs') hp n K
        | _, _ => False
      | .row true e ck rows => match Nat.beq w (llen ck), Nat.ble (f + m) (llen ck) with
        | true, true => i < rows.length ∧ valsOf (dropN ck f) l fun vals => eset (.row true e ck (rows.set i (over (rows.getD i []) f vals))) hp n K
        | _, _ => False
      | _ => False
    | _ => False
  | false => False
def vStore (m : Nat) (x y : SV) (hp : List Ent) (M : HL) (K : List Ent → HL → Prop) : Prop :=
  flat y fun l => match hasRef l, toRow x hp, oneL l with
  | true, true, true => frzL l hp M fun l' hp' M' => vStore0 m x l' hp' fun hp2 => K hp2 M'
  | _, _, _ => vStore0 m x l hp fun hp2 => K hp2 M

/-! ### Integers, comparisons -/
def vBin (op : BinOp) (x y : SV) (K : SV → Prop) : Prop :=
  match x, y with
  | .v (.int k a), .v (.int k' b) => match op with
    | .shl => 0 ≤ b ∧ K (.v (.int k (k.wrap (a * 2 ^ (min b.toNat k.bits)))))
    | .shr => 0 ≤ b ∧ K (.v (.int k (a.fdiv (2 ^ (min b.toNat k.bits)))))
    | op => match kEq k k' with
      | true => match op with
        | .add => K (.v (.int k (k.wrap (a + b))))
        | .sub => K (.v (.int k (k.wrap (a - b))))
        | .mul => K (.v (.int k (k.wrap (a * b))))
        | .quo => b ≠ 0 ∧ K (.v (.int k (k.wrap (a.tdiv b))))
        | .rem => b ≠ 0 ∧ K (.v (.int k (a.tmod b)))
        | .and => K (.v (.int k (k.wrap (BitVec.ofInt k.bits a &&& BitVec.ofInt k.bits b).toNat)))
        | .or => K (.v (.int k (k.wrap (BitVec.ofInt k.bits a ||| BitVec.ofInt k.bits b).toNat)))
        | .xor => K (.v (.int k (k.wrap (BitVec.ofInt k.bits a ^^^ BitVec.ofInt k.bits b).toNat)))
        | .andNot => K (.v (.int k (k.wrap (BitVec.ofInt k.bits a &&& ~~~BitVec.ofInt k.bits b).toNat)))
        | .eql => K (.v (.bool (a == b)))
        | .neq => K (.v (.bool (a != b)))
        | .lss => K (.v (.bool (decide (a < b))))
        | .leq => K (.v (.bool (decide (a ≤ b))))
        | .gtr => K (.v (.bool (decide (a > b))))
        | .geq => K (.v (.bool (decide (a ≥ b))))
        | _ => False
      | false => False
  | _, _ => False
def vEqb (ne : Bool) (x y : SV) (K : SV → Prop) : Prop :=
  match x, y with
  | .v (.bool a), .v (.bool b) => match ne with
    | false => K (.v (.bool (a == b)))
    | true => K (.v (.bool (!(a == b))))
  | _, _ => False
def vUn (op : UnOp) (x : SV) (K : SV → Prop) : Prop :=
  match op, x with
  | .neg, .v (.int k n) => K (.v (.int k (k.wrap (0 - n))))
  | .xor, .v (.int k n) => K (.v (.int k (k.wrap (BitVec.ofInt k.bits (if k.signed then -1 else k.max) ^^^ BitVec.ofInt k.bits n).toNat)))
  | .not, .v (.bool b) => K (.v (.bool !b))
  | _, _ => False
/-- Comparisons of pointers (0), interfaces (1), functions (2); 'c': one side is written as a constant. -/
def vEq0 (x y : SV) (K : Bool → Prop) : Prop :=
  match x, y with
  | .ptr .., .v (.pointer none) | .v (.pointer none), .ptr .. | .rpt .., .v (.pointer none) | .v (.pointer none), .rpt .. | .v (.pointer (some _)), .v (.pointer none) | .v (.pointer none), .v (.pointer (some _)) => K false
  | .v (.pointer none), .v (.pointer none) => K true
  | _, _ => False
def vEq1 (c : Bool) (x y : SV) (K : Bool → Prop) : Prop :=
  match x, y with
  | .v .nilIface, .v .nilIface => match c with | true => K true | false => False
  | .v .nilIface, .ifc _ _ | .ifc _ _, .v .nilIface | .v .nilIface, .v (.iface _ _) | .v (.iface _ _), .v .nilIface => K false
  | _, _ => False
def vEq2 (x y : SV) (K : Bool → Prop) : Prop :=
  match x, y with
  | .v .nilFunc, .v .nilFunc => K true
  | .fn .., .v .nilFunc => K false
  | _, _ => False
/-- A slice against nil. -/
def vEq3 (x y : SV) (K : Bool → Prop) : Prop :=
  match y with
  | .v (.slice none _ _) => match x with
    | .v (.slice none _ _) => K true
    | .v (.slice (some _) _ _) => K false
    | .slc _ _ _ len => (0 < len → K false) ∧ (len = 0 → K true ∧ K false)
    | .emp => K true ∧ K false
    | .rsl y => (0 < slen y → K false) ∧ (slen y = 0 → K true ∧ K false)
    | _ => False
  | _ => False
def vEq (k : Nat) (c : Bool) (x y : SV) (K : Bool → Prop) : Prop :=
  match k with
  | 0 => vEq0 x y K
  | 1 => vEq1 c x y K
  | 2 => vEq2 x y K
  | _ => vEq3 x y K
end Go.Vc
