/-
  Symbolic execution of the model's code, part A: symbolic values, a compact form of the code, and the (computable) translation into it.
-/
import Derived.WalkKit
import Derived.KernelRfl
set_option linter.unusedSimpArgs false
set_option linter.unusedVariables false

namespace Go.Vc

/-- What a cell of a row holds. -/
inductive CK where
  | int (k : IntKind) | bool | raw | sl
  deriving Repr, Inhabited, DecidableEq

/-- Symbolic values. 'n' are local names of blocks. -/
inductive SV where
  | v (x : Value)
  | ptr (n w i f : Nat)
  | slc (n w i len : Nat)
  | emp
  | agg (l : List SV)
  | tup (l : List SV)
  | fn (f : Fn) (first caps : List SV)
  | ifc (t : TypeId) (x : SV)
  | rsl (y : Value)
  | rpt (y : Value) (w i f : Nat)
  | slx (n w len c : Nat)
  | via (n : Nat) (x : Value)
  | any
  deriving Inhabited

def SV.ofV : Value → SV
  | .agg cs => .agg (cs.toList.map .v)
  | .tuple vs => .tup (vs.toList.map .v)
  | x => .v x

/-- What a map's keys are: a number, or two numbers. -/
inductive KT where
  | one (k : IntKind) | two
  deriving Repr, Inhabited, DecidableEq

inductive PArg where
  | t (n : Nat) | c (s : SV)
  deriving Inhabited

inductive POp where
  | mov (x : PArg)
  | pick (c a b : PArg)
  | box (e : TypeId) (x : PArg)
  | build (zero : List SV) (parts : List (Nat × Nat × PArg))
  | bslice (e : TypeId) (cks : List CK) (n : Nat) (zero : List SV) (parts : List (Nat × Nat × PArg))
  | load (s : Option Nat) (a : PArg)
  | store (s : Nat) (a x : PArg)
  | nilck (x : PArg)
  | bin (op : BinOp) (x y : PArg)
  | eqp (k : Nat) (c : Bool) (ne : Bool) (x y : PArg)
  | eqb (ne : Bool) (x y : PArg)
  | un (op : UnOp) (x : PArg)
  | conv (k : IntKind) (x : PArg)
  | iface (t : TypeId) (x : PArg)
  | clo (f : Fn) (first caps : List PArg)
  | mslice (e : TypeId) (cks : List CK) (zero : List Value) (bytes : Nat) (l c : PArg)
  | slice (w : Nat) (x : PArg) (lo hi mx : Option PArg)
  | fld (off : Nat) (x : PArg)
  | part (off : Nat) (s : Option Nat) (x : PArg)
  | idx (w : Nat) (x i : PArg)
  | idxa (len w : Nat) (x i : PArg)
  | ixv (len : Nat) (x i : PArg)
  | ext (x : PArg) (i : Nat)
  | call (f : Nat) (args : List PArg)
  | callv (g : PArg) (args : List PArg)
  | len (x : PArg)
  | cap (x : PArg)
  | append (e : TypeId) (cks : List CK) (zero : List Value) (bytes : Nat) (s x : PArg)
  | appendz (e : TypeId) (cks : List CK) (zero : List Value) (bytes : Nat) (s x : PArg)
  | copy (w : Nat) (d s : PArg)
  | minmax (mx : Bool) (xs : List PArg)
  | clr (e : TypeId) (cks : List CK) (zero : List Value) (x : PArg)
  | tassert (asserted : TypeId) (ok : Bool) (zero : SV) (x : PArg)
  | mkmap
  | mapget (kt : KT) (ek : Option Nat) (zero : Value) (m k : PArg)
  | mapput (kt : KT) (m k x : PArg)
  | bad (why : String)
  deriving Inhabited

structure PO where
  dst : Option Nat
  op : POp
  guard : Option (Nat × Bool) := none
  deriving Inhabited

/-- How a region whose order is drawn is walked. -/
inductive DT where
  | done
  | take (i : Nat) (deps : List Nat) (r : DT)
  | eff (quiet : Bool) (i : Nat) (r : DT)
  | both (a b : DT)
  deriving Inhabited

inductive PCode where
  | skip | ret
  | ops (draw : Bool) (l : List PO) (dt : DT)
  | seq (a b : PCode)
  | cond (c : PArg) (a b : PCode)
  | block (id : Nat) (c : PCode)
  | loop (c : PCode)
  | exit (id : Nat)
  | rangef (f : PArg) (bk : List (Nat × Option Nat)) (params : List Nat) (a b : PCode)
  | bad (why : String)
  | cut (c : PCode)
  deriving Inhabited
/-- The functions that are slices.Backward's closures, with the size of an element that is made of cells: kept at a plan's number 999999. -/
def bkOf : DT → List (Nat × Option Nat)
  | .take i deps r => (i, deps.head?) :: bkOf r
  | _ => []
/-- A mark at a region's plan: its ways meet again behind it. -/
def cutOf : DT → Option DT
  | .eff _ i r => if i = 1000000 then some r else none
  | _ => none

def isNeq : BinOp → Bool
  | .neq => true
  | _ => false
def isNil0 : Value → Bool
  | .slice none 0 0 => true
  | _ => false
def CK.fitsB : CK → Value → Bool
  | .int k, .int k' _ => k == k'
  | .bool, .bool _ => true
  | .sl, x => isNil0 x
  | .raw, .agg _ | .raw, .tuple _ => false
  | .raw, _ => true
  | _, _ => false
def fitsAll : List CK → List Value → Bool
  | [], [] => true
  | k :: r, x :: l => k.fitsB x && fitsAll r l
  | _, _ => false

section
variable (P : Program)

def isConstO : Operand → Bool
  | .const _ => true
  | _ => false
def carg : Operand → PArg
  | .tmp n => .t n
  | .const v => .c (.ofV v)
  | .global g => .c (.v (.pointer (some ⟨g, 0, none⟩)))
  | .func f => .c (.fn (.func f) [] [])

/-- The kind of each cell of a type. -/
def ckOf : (depth : Nat) → TypeId → List CK
  | 0, _ => []
  | d + 1, t => match P.underlying t with
    | some (.int k) => [.int k]
    | some .bool => [.bool]
    | some (.slice _) => [.sl]
    | some (.struct fs) => fs.toList.flatMap fun f => ckOf d f.type
    | some (.array n e) => (List.range n).flatMap fun _ => ckOf d e
    | _ => [.raw]

def cks (t : TypeId) : List CK := ckOf P 12 t
def szOf (t : TypeId) : Nat := ((P.info? t).map (·.size)).getD 0
def byOf (t : TypeId) : Nat := ((P.info? t).map (·.bytes)).getD 0
def zeroOf (t : TypeId) : Option Value := (P.info? t).bind (·.zero)
def isAggT (t : TypeId) : Bool := match P.underlying t with | some (.struct _) => true | some (.array ..) => true | _ => false
def sizeO (t : TypeId) : Option Nat := if isAggT P t then some (szOf P t) else none
def elemT (t : TypeId) : TypeId := match P.underlying t with | some (.slice e) => e | some (.array _ e) => e | _ => 0
def fieldOf (t : TypeId) (f : Nat) : Option (Nat × TypeId) :=
  match P.underlying t with
  | some (.struct fs) => (fs[f]?).map fun x => (x.offset, x.type)
  | _ => none

/-- Where the i-th part of a value lies: its first cell, its size. -/
def placesOf (t : TypeId) : Option (Nat → Option (Nat × Nat)) :=
  match P.underlying t with
  | some (.struct fs) => (fs.toList.mapM (fun f => (P.info? f.type).map fun i => (f.offset, i.size))).map fun places => (places.toArray[·]?)
  | some (.array _ e) => (P.info? e).map fun ie => fun i => some (i * ie.size, ie.size)
  | _ => none
def partsBy (pl : Nat → Option (Nat × Nat)) (ps : Array (Nat × Operand)) : Option (List (Nat × Nat × PArg)) :=
  ps.toList.mapM fun x => (pl x.1).map fun (o, s) => (o, s, carg x.2)
def partsOf (t : TypeId) (ps : Array (Nat × Operand)) : Option (List (Nat × Nat × PArg)) :=
  (placesOf P t).bind fun pl => partsBy pl ps

def isI64T (t : TypeId) : Bool := match P.underlying t with
  | some (.int .i64) => true
  | _ => false
/-- The kind of a map's keys. -/
def ktOf (t : TypeId) : Option KT := match P.underlying t with
  | some (.int k) => some (.one k)
  | some (.struct fs) => match fs.toList with
    | [a, b] => if a.name != "_" && b.name != "_" && isI64T P a.type && isI64T P b.type && Nat.beq a.offset 0 && Nat.beq b.offset 1 && !P.stoodInHeld t then some .two else none
    | _ => none
  | _ => none
/-- A map's values: slices, or so many cells. -/
def ekOf (t : TypeId) : Option (Option Nat) := match P.underlying t with
  | some (.slice _) => some none
  | some (.struct _) => some (some (szOf P t))
  | some (.array _ _) => some (some (szOf P t))
  | _ => none
def cop (o : Oper) : POp :=
  match o.op with
  | .move x | .assign x => .mov (carg x)
  | .pick c a b => .pick (carg c) (carg a) (carg b)
  | .alloc e => match zeroOf P e with | some z => .box e (.c (.ofV z)) | none => .bad "alloc"
  | .box e x => .box e (carg x)
  | .build t ps => match zeroOf P t, partsOf P t ps with | some z, some l => .build (z.cells.toList.map .v) l | _, _ => .bad "build"
  | .buildSlice t n ps =>
    match P.underlying t with
    | some (.slice e) => match zeroOf P e, partsBy (fun i => some (i * szOf P e, szOf P e)) ps with
      | some z, some l => if z.cells.size = szOf P e ∧ 0 < szOf P e ∧ szOf P e = (cks P e).length ∧ n * szOf P e ≤ 16777216 then .bslice e (cks P e) n (((Array.range (n * szOf P e)).map (z.cells[· % z.cells.size]!)).toList.map .v) l else .bad "buildSlice"
      | _, _ => .bad "buildSlice"
    | _ => .bad "buildSlice"
  | .load t a => if (P.underlying t).isSome = true ∧ (P.info? t).isSome = true then .load (sizeO P t) (carg a) else .bad "load"
  | .store t a x => if (P.info? t).isSome = true then .store (szOf P t) (carg a) (carg x) else .bad "store"
  | .nilCheck x => .nilck (carg x)
  | .binOp op t x y _ =>
    match op with
    | .eql | .neq => match P.underlying t with
      | some (.int _) => .bin op (carg x) (carg y)
      | some .bool => .eqb (isNeq op) (carg x) (carg y)
      | some (.pointer _) => .eqp 0 (isConstO x || isConstO y) (isNeq op) (carg x) (carg y)
      | some (.interface _) => .eqp 1 (isConstO x || isConstO y) (isNeq op) (carg x) (carg y)
      | some (.func ..) => .eqp 2 (isConstO x || isConstO y) (isNeq op) (carg x) (carg y)
      | some (.slice _) => .eqp 3 (isConstO x || isConstO y) (isNeq op) (carg x) (carg y)
      | _ => .bad "=="
    | _ => .bin op (carg x) (carg y)
  | .unOp op _ x => .un op (carg x)
  | .convert s d x => match P.underlying s, P.underlying d with | some (.int _), some (.int k) => .conv k (carg x) | _, _ => .bad "convert"
  | .makeInterface t x => if P.concrete t = true then .iface t (carg x) else .bad "makeInterface"
  | .makeFunc f a b => .clo f (a.toList.map carg) (b.toList.map carg)
  | .makeMap _ r => match r with | none => .mkmap | some _ => .bad "makeMap"
  | .makeSlice t l c => match P.underlying t with
    | some (.slice e) => match zeroOf P e with
      | some z => if fitsAll (cks P e) z.cells.toList = true ∧ szOf P e = (cks P e).length then .mslice e (cks P e) z.cells.toList (byOf P e) (carg l) (carg c) else .bad "makeSlice"
      | _ => .bad "makeSlice"
    | _ => .bad "makeSlice"
  | .slice t x lo hi mx => match P.underlying t with
    | some (.slice e) => if (P.info? e).isSome = true then .slice (szOf P e) (carg x) (lo.map carg) (hi.map carg) (mx.map carg) else .bad "slice"
    | _ => .bad "slice of no slice"
  | .fieldAddr t x f => match fieldOf P t f with | some (off, ft) => if szOf P ft = 0 then .bad "field of size 0" else .fld off (carg x) | none => .bad "fieldAddr"
  | .field t x f => match fieldOf P t f with | some (off, ft) => if (P.underlying ft).isSome = true ∧ (P.info? ft).isSome = true then .part off (sizeO P ft) (carg x) else .bad "field" | none => .bad "field"
  | .indexAddr t x i => match P.underlying t with
    | some (.slice e) => if (P.info? e).isSome = true then .idx (szOf P e) (carg x) (carg i) else .bad "idx"
    | some (.array n e) => if (P.info? e).isSome = true then .idxa n (szOf P e) (carg x) (carg i) else .bad "idxa"
    | _ => .bad "indexAddr"
  | .extract x i => .ext (carg x) i
  | .call c => match c.callee with
    | .value (.func f) => .call f (c.args.toList.map carg)
    | .value g => .callv (carg g) (c.args.toList.map carg)
    | .builtin .len => match c.args.toList, c.argTypes.toList with
      | [x], [t] => match P.underlying t with | some (.slice _) => .len (carg x) | _ => .bad "len of no slice"
      | _, _ => .bad "len"
    | .builtin .cap => match c.args.toList, c.argTypes.toList with
      | [x], [t] => match P.underlying t with | some (.slice _) => .cap (carg x) | _ => .bad "cap of no slice"
      | _, _ => .bad "cap"
    | .builtin .append => match c.args.toList, c.argTypes.toList with
      | [s, x], [t, u] => match P.underlying t, P.underlying u with
        | some (.slice e), some (.slice _) => match zeroOf P e with
          | some z => if z.cells.size = szOf P e ∧ szOf P e = (cks P e).length ∧ 0 < byOf P e then .append e (cks P e) z.cells.toList (byOf P e) (carg s) (carg x) else .bad "append"
          | none => .bad "append"
        | some (.slice e), some (.int _) => match zeroOf P e with
          | some z => if fitsAll (cks P e) z.cells.toList = true ∧ szOf P e = (cks P e).length ∧ 0 < byOf P e then .appendz e (cks P e) z.cells.toList (byOf P e) (carg s) (carg x) else .bad "append of zeros"
          | none => .bad "append"
        | _, _ => .bad "append"
      | _, _ => .bad "append"
    | .builtin .copy => match c.args.toList, c.argTypes.toList with
      | [s, x], [t, _] => match P.underlying t with
        | some (.slice e) => .copy (szOf P e) (carg s) (carg x)
        | _ => .bad "copy"
      | _, _ => .bad "copy"
    | .builtin .max => .minmax true (c.args.toList.map carg)
    | .builtin .min => .minmax false (c.args.toList.map carg)
    | .builtin .clear => match c.args.toList, c.argTypes.toList with
      | [x], [t] => match P.underlying t with
        | some (.slice e) => match zeroOf P e with
          | some z => if fitsAll (cks P e) z.cells.toList = true ∧ szOf P e = (cks P e).length then .clr e (cks P e) z.cells.toList (carg x) else .bad "clear"
          | none => .bad "clear"
        | _ => .bad "clear"
      | _, _ => .bad "clear"
    | .builtin b => .bad ("builtin " ++ (toString (repr b)))
    | .invoke _ m => .bad ("invoke " ++ m)
  | .typeAssert x _ a ok => match zeroOf P a with | some z => if P.concrete a = true then .tassert a ok (.ofV z) (carg x) else .bad "typeAssert" | none => .bad "typeAssert"
  | .lookup t m k ok => match P.underlying t with
    | some (.map kt e) => match ok, zeroOf P e, ktOf P kt, ekOf P e with
      | false, some z, some q, some ek => .mapget q ek z (carg m) (carg k)
      | _, _, _, _ => .bad "lookup"
    | _ => .bad "lookup"
  | .mapUpdate t m k x => match P.underlying t with
    | some (.map kt _) => match ktOf P kt with
      | some q => .mapput q (carg m) (carg k) (carg x)
      | none => .bad "mapUpdate"
    | _ => .bad "mapUpdate"
  | .index t x i => match P.underlying t with
    | some (.array n e) => if (P.underlying e).isSome = true ∧ (P.info? e).isSome = true ∧ isAggT P e = false ∧ szOf P e = 1 then .ixv n (carg x) (carg i) else .bad "index"
    | _ => .bad "index"
  | _ => .bad "an operation"

def cpo (ops : Array Oper) (o : Oper) : PO :=
  { dst := o.dst, op := cop P o, guard := o.guard.bind fun (j, want) => ((ops[j]?).bind (·.dst)).map fun t => (t, want) }

def ccode (pl : Nat → DT) : Code → PCode
  | .skip => .skip
  | .ret => .ret
  | .region id ops draw => match cutOf (pl id) with
    | some r => .cut (.ops draw (ops.toList.map (cpo P ops)) (if draw then r else .done))
    | none => .ops draw (ops.toList.map (cpo P ops)) (if draw then pl id else .done)
  | .seq a b => .seq (ccode pl a) (ccode pl b)
  | .cond c a b => .cond (carg c) (ccode pl a) (ccode pl b)
  | .block id c => .block id (ccode pl c)
  | .loop c => .loop (ccode pl c)
  | .exit id => .exit id
  | .rangeFunc f ps a b => .rangef (carg f) (bkOf (pl 999999)) ps.toList (ccode pl a) (ccode pl b)
  | .scope _ => .bad "scope" | .label _ => .bad "label" | .goto _ => .bad "goto" | .refuse w => .bad ("refuse " ++ w)
end
end Go.Vc
/-
  Symbolic execution, part B: what symbolic values and heaps mean.
-/
namespace Go.Vc

/-- Where a name lies: block, the row's first cell, how many elements there is room for. -/
abbrev Loc := Option (Nat × Nat × Nat)
abbrev HL := Nat → Option Obj

mutual
def Den (ρ : Nat → Loc) : SV → Value → Prop
  | .v x, y => x = y
  | .ptr n w i f, y => ∃ b base cap, ρ n = some (b, base, cap) ∧ y = .pointer (some ⟨b, base + (i * w + f), none⟩)
  | .slc n w i len, y => ∃ a c, y = .slice a len c ∧ len ≤ c ∧ (c = 0 ∨ ∃ b base cap, ρ n = some (b, base, cap) ∧ a = some ⟨b, base + i * w, none⟩ ∧ i + c ≤ cap)
  | .emp, y => ∃ a, y = .slice a 0 0
  | .agg l, y => ∃ cs : List Value, y = .agg cs.toArray ∧ DenL ρ l cs
  | .tup l, y => ∃ cs : List Value, y = .tuple cs.toArray ∧ DenL ρ l cs
  | .fn f first caps, y => ∃ a b : List Value, y = .func f a.toArray b.toArray ∧ DenL ρ first a ∧ DenL ρ caps b
  | .ifc t x, y => ∃ z, y = .iface t z ∧ Den ρ x z
  | .rsl z, y => y = z ∧ ∃ a n c, z = .slice a n c ∧ n ≤ c ∧ (a = none → n = 0)
  | .rpt z w i f, y => ∃ a n c, z = .slice (some a) n c ∧ y = .pointer (some (a.add (i * w + f)))
  | .slx n _ len c, y => ∃ b base cap, ρ n = some (b, base, cap) ∧ y = .slice (some ⟨b, base, none⟩) len c ∧ len ≤ c ∧ c ≤ cap
  | .via _ x, y => x = y
  | .any, _ => True
def DenL (ρ : Nat → Loc) : List SV → List Value → Prop
  | [], [] => True
  | s :: ss, v :: vs => Den ρ s v ∧ DenL ρ ss vs
  | _, _ => False
end

/-- 'ρ'' keeps the names below k. -/
def Ext (k : Nat) (ρ ρ' : Nat → Loc) : Prop := ∀ n, n < k → ρ' n = ρ n
def Le (ρ ρ' : Nat → Loc) : Prop := ∀ n x, ρ n = some x → ρ' n = some x

mutual
theorem Den.mono {ρ ρ' : Nat → Loc} (h : Le ρ ρ') : ∀ (s : SV) (y : Value), Den ρ s y → Den ρ' s y
  | .v _, _, hd => by simpa [Den] using hd
  | .ptr n w i f, y, hd => by
    simp only [Den] at hd ⊢
    obtain ⟨b, base, cap, h1, h2⟩ := hd
    exact ⟨b, base, cap, h _ _ h1, h2⟩
  | .slc n w i len, y, hd => by
    simp only [Den] at hd ⊢
    obtain ⟨a, c, h1, h2, h3⟩ := hd
    refine ⟨a, c, h1, h2, ?_⟩
    rcases h3 with h3 | ⟨b, base, cap, h4, h5⟩
    · exact .inl h3
    · exact .inr ⟨b, base, cap, h _ _ h4, h5⟩
  | .emp, _, hd => by simpa [Den] using hd
  | .agg l, y, hd => by
    simp only [Den] at hd ⊢
    obtain ⟨cs, h1, h2⟩ := hd
    exact ⟨cs, h1, DenL.mono h l cs h2⟩
  | .tup l, y, hd => by
    simp only [Den] at hd ⊢
    obtain ⟨cs, h1, h2⟩ := hd
    exact ⟨cs, h1, DenL.mono h l cs h2⟩
  | .fn f a b, y, hd => by
    simp only [Den] at hd ⊢
    obtain ⟨x, z, h1, h2, h3⟩ := hd
    exact ⟨x, z, h1, DenL.mono h a x h2, DenL.mono h b z h3⟩
  | .ifc t x, y, hd => by
    simp only [Den] at hd ⊢
    obtain ⟨z, h1, h2⟩ := hd
    exact ⟨z, h1, Den.mono h x z h2⟩
  | .rsl _, _, hd => by simpa [Den] using hd
  | .rpt .., _, hd => by simpa [Den] using hd
  | .slx n w len c, y, hd => by
    simp only [Den] at hd ⊢
    obtain ⟨b, base, cap, h1, h2⟩ := hd
    exact ⟨b, base, cap, h _ _ h1, h2⟩
  | .via _ _, _, hd => by simpa [Den] using hd
  | .any, _, _ => by simp [Den]
theorem DenL.mono {ρ ρ' : Nat → Loc} (h : Le ρ ρ') : ∀ (s : List SV) (y : List Value), DenL ρ s y → DenL ρ' s y
  | [], [], _ => by simp [DenL]
  | s :: ss, v :: vs, hd => by
    simp only [DenL] at hd ⊢
    exact ⟨Den.mono h s v hd.1, DenL.mono h ss vs hd.2⟩
  | [], _ :: _, hd => by simp [DenL] at hd
  | _ :: _, [], hd => by simp [DenL] at hd
end

theorem DenL.length {ρ : Nat → Loc} : ∀ {s : List SV} {y : List Value}, DenL ρ s y → s.length = y.length
  | [], [], _ => rfl
  | _ :: ss, _ :: vs, hd => by simp only [DenL] at hd; simp [DenL.length hd.2]
  | [], _ :: _, hd => by simp [DenL] at hd
  | _ :: _, [], hd => by simp [DenL] at hd

theorem DenL.get {ρ : Nat → Loc} : ∀ {s : List SV} {y : List Value}, DenL ρ s y → ∀ {n : Nat} {x : SV}, s[n]? = some x → ∃ v, y[n]? = some v ∧ Den ρ x v
  | [], [], _, n, x, hn => by simp at hn
  | a :: ss, v :: vs, hd, 0, x, hn => by
    simp only [DenL] at hd
    simp at hn
    subst hn
    exact ⟨v, rfl, hd.1⟩
  | a :: ss, v :: vs, hd, n + 1, x, hn => by
    simp only [DenL] at hd
    simp at hn
    obtain ⟨u, h1, h2⟩ := DenL.get hd.2 hn
    exact ⟨u, by simpa using h1, h2⟩
  | [], _ :: _, hd, _, _, _ => by simp [DenL] at hd
  | _ :: _, [], hd, _, _, _ => by simp [DenL] at hd

theorem DenL.set {ρ : Nat → Loc} {x : SV} {v : Value} (hx : Den ρ x v) : ∀ {s : List SV} {y : List Value}, DenL ρ s y → ∀ n, DenL ρ (s.set n x) (y.set n v)
  | [], [], _, n => by simp [DenL]
  | a :: ss, u :: vs, hd, 0 => by simp only [DenL] at hd; simp only [List.set_cons_zero, DenL]; exact ⟨hx, hd.2⟩
  | a :: ss, u :: vs, hd, n + 1 => by simp only [DenL] at hd; simp only [List.set_cons_succ, DenL]; exact ⟨hd.1, DenL.set hx hd.2 n⟩
  | [], _ :: _, hd, _ => by simp [DenL] at hd
  | _ :: _, [], hd, _ => by simp [DenL] at hd

theorem DenL.append {ρ : Nat → Loc} : ∀ {s s' : List SV} {y y' : List Value}, DenL ρ s y → DenL ρ s' y' → DenL ρ (s ++ s') (y ++ y')
  | [], _, [], _, _, h' => by simpa using h'
  | _ :: _, _, _ :: _, _, h, h' => by simp only [DenL] at h; simp only [List.cons_append, DenL]; exact ⟨h.1, DenL.append h.2 h'⟩
  | [], _, _ :: _, _, hd, _ => by simp [DenL] at hd
  | _ :: _, _, [], _, hd, _ => by simp [DenL] at hd

theorem DenL.drop {ρ : Nat → Loc} : ∀ (n : Nat) {s : List SV} {y : List Value}, DenL ρ s y → DenL ρ (s.drop n) (y.drop n)
  | 0, _, _, h => by simpa using h
  | n + 1, [], [], _ => by simp [DenL]
  | n + 1, _ :: _, _ :: _, h => by simp only [DenL] at h; simpa using DenL.drop n h.2
  | _ + 1, [], _ :: _, hd => by simp [DenL] at hd
  | _ + 1, _ :: _, [], hd => by simp [DenL] at hd
theorem DenL.take {ρ : Nat → Loc} : ∀ (n : Nat) {s : List SV} {y : List Value}, DenL ρ s y → DenL ρ (s.take n) (y.take n)
  | 0, _, _, _ => by simp [DenL]
  | n + 1, [], [], _ => by simp [DenL]
  | n + 1, _ :: _, _ :: _, h => by simp only [DenL] at h; simp only [List.take_succ_cons, DenL]; exact ⟨h.1, DenL.take n h.2⟩
  | _ + 1, [], _ :: _, hd => by simp [DenL] at hd
  | _ + 1, _ :: _, [], hd => by simp [DenL] at hd

theorem DenL.vs {ρ : Nat → Loc} : ∀ (l : List Value), DenL ρ (l.map .v) l
  | [] => by simp [DenL]
  | x :: l => by simp only [List.map_cons, DenL, Den, true_and]; exact DenL.vs l

theorem DenL.of_get {ρ : Nat → Loc} : ∀ {s : List SV} {y : List Value}, s.length = y.length → (∀ (n : Nat) (x : SV) (v : Value), s[n]? = some x → y[n]? = some v → Den ρ x v) → DenL ρ s y
  | [], [], _, _ => by simp [DenL]
  | a :: ss, u :: vs, hl, h => by
    simp only [DenL]
    exact ⟨h 0 a u rfl rfl, DenL.of_get (by simpa using hl) (fun n x v h1 h2 => h (n + 1) x v (by simpa using h1) (by simpa using h2))⟩
  | [], _ :: _, hl, _ => by simp at hl
  | _ :: _, [], hl, _ => by simp at hl

theorem den_ofV (ρ : Nat → Loc) (x : Value) : Den ρ (SV.ofV x) x := by
  cases x <;> simp only [SV.ofV, Den] <;> first
    | rfl
    | exact ⟨_, by simp, DenL.vs _⟩

/-- A cell's value fits its kind. -/
def CK.fits : CK → Value → Prop
  | .int k, x => ∃ n, x = .int k n
  | .bool, x => ∃ b, x = .bool b
  | .raw, x => x.oneCell' = true
  | .sl, x => ∃ a n c, x = .slice a n c ∧ n ≤ c ∧ (a = none → n = 0)

def toI : Value → Int | .int _ n => n | _ => 0
def toB : Value → Bool | .bool b => b | _ => false

theorem CK.fits.one {k : CK} {x : Value} (h : k.fits x) : x.oneCell' = true := by
  cases k with
  | int k => obtain ⟨n, rfl⟩ := h; rfl
  | bool => obtain ⟨n, rfl⟩ := h; rfl
  | raw => exact h
  | sl => obtain ⟨a, n, c, rfl, _, _⟩ := h; rfl

/-- The cells of rows, from 'base' on. -/
def RowAt (ck : List CK) (cur : Array Value) (base : Nat) (rows : List (List Value)) : Prop :=
  ∀ i r, rows[i]? = some r → r.length = ck.length ∧ ∀ f k x, ck[f]? = some k → r[f]? = some x → cur[base + (i * ck.length + f)]? = some x ∧ k.fits x

/-- The elements of a slice that lies in what stays. -/
def RowsIn (M : HL) (e : TypeId) (ck : List CK) (y : Value) (rows : List (List Value)) : Prop :=
  0 < ck.length ∧ ((rows = [] ∧ ∃ a, y = .slice a 0 0) ∨ ∃ b base c cur fr, y = .slice (some ⟨b, base, none⟩) rows.length c ∧ rows.length ≤ c ∧ M b = some (.cells cur e fr) ∧ RowAt ck cur base rows)

inductive Ent where
  | gone
  | cells (e : TypeId) (vs : List SV)
  | row (own : Bool) (e : TypeId) (ck : List CK) (rows : List (List Value))
  | rcells (e : TypeId) (vs : List SV)
  | sub (own : Bool) (N : HL)
  deriving Inhabited

def Ent.own : Ent → Bool
  | .gone => false
  | .cells .. => true
  | .row o .. => o
  | .rcells .. => false
  | .sub o _ => o
/-- Owns a single block, that its name tells. -/
def Ent.own1 : Ent → Bool
  | .cells .. => true
  | .row o .. => o
  | _ => false
/-- Blocks that no one shares: cells that may be written, or a map. -/
def Obj.free : Obj → Prop
  | .cells _ _ fr => fr = (0, 0)
  | .map _ _ => True
  | _ => False

def EntOK (ρ : Nat → Loc) (M : HL) (w : World) (n : Nat) : Ent → Prop
  | .gone => True
  | .cells e vs => ∃ b cap cs, ρ n = some (b, 0, cap) ∧ w.heap[b]? = some (.cells cs e (0, 0)) ∧ DenL ρ vs cs.toList
  | .rcells e vs => ∃ b cap cs fr, ρ n = some (b, 0, cap) ∧ M b = some (.cells cs e fr) ∧ DenL ρ vs cs.toList
  | .sub own N => ∀ b o, N b = some o → Obj.free o ∧ (if own then w.heap[b]? = some o else M b = some o)
  | .row own e ck rows =>
    0 < ck.length ∧ match ρ n with
    | none => rows = []
    | some (b, base, cap) => ∃ cur fr, (if own then w.heap[b]? = some (.cells cur e (0, 0)) ∧ cur.size = base + cap * ck.length ∧ cap ≤ maxLen else M b = some (.cells cur e fr)) ∧
        rows.length ≤ cap ∧ RowAt ck cur base rows

/-- Where an entry's blocks lie. -/
def Lies (l : Loc) (e : Ent) (b base cap : Nat) : Prop :=
  match e with
  | .sub _ N => ∃ o, N b = some o
  | .gone => l = some (b, base, cap)
  | .cells _ _ => l = some (b, base, cap)
  | .row _ _ _ _ => l = some (b, base, cap)
  | .rcells _ _ => l = some (b, base, cap)
theorem own1_own {e : Ent} (h : e.own1 = true) : e.own = true := by cases e <;> first | exact h | rfl | cases h
theorem own1_lies {e : Ent} (h : e.own1 = true) {l : Loc} {b base cap : Nat} : Lies l e b base cap ↔ l = some (b, base, cap) := by cases e <;> first | exact Iff.rfl | cases h
def owns (ρ : Nat → Loc) (hp : List Ent) (n b : Nat) : Prop := ∃ e base cap, hp[n]? = some e ∧ e.own = true ∧ Lies (ρ n) e b base cap

structure Holds (ρ : Nat → Loc) (hp : List Ent) (M F : HL) (w : World) : Prop where
  ent : ∀ n e, hp[n]? = some e → EntOK ρ M w n e
  sep : ∀ n m b, owns ρ hp n b → owns ρ hp m b → n = m
  out : ∀ n b, owns ρ hp n b → F b = none
  frm : ∀ k o, F k = some o → w.heap[k]? = some o
  sub : ∀ k o, M k = some o → F k = some o
  dom : ∀ n, hp.length ≤ n → ρ n = none

/-- The streams stay; no block goes. -/
structure Same (w w' : World) : Prop where
  os : w'.os = w.os
  tape : w'.tape = w.tape
  output : w'.output = w.output
  size : w.heap.size ≤ w'.heap.size

theorem Same.refl (w : World) : Same w w := ⟨rfl, rfl, rfl, Nat.le_refl _⟩
theorem Same.trans {a b c : World} (h : Same a b) (k : Same b c) : Same a c :=
  ⟨k.os.trans h.os, k.tape.trans h.tape, k.output.trans h.output, Nat.le_trans h.size k.size⟩

def FLe (F F' : HL) : Prop := ∀ k o, F k = some o → F' k = some o
theorem FLe.refl (F : HL) : FLe F F := fun _ _ h => h
theorem FLe.trans {F F' F'' : HL} (h : FLe F F') (k : FLe F' F'') : FLe F F'' := fun a o x => k _ _ (h a o x)

/-- What a piece of code makes known, or lets be: nothing that the frame had. -/
structure Gr (M F M' F' : HL) : Prop where
  fr : FLe F F'
  kn : FLe M M'
  n : ∀ b o, M' b = some o → M b = some o ∨ F b = none
theorem Gr.refl (M F : HL) : Gr M F M F := ⟨FLe.refl F, FLe.refl M, fun _ _ h => .inl h⟩
theorem Gr.trans {M F M' F' M2 F2 : HL} (h : Gr M F M' F') (k : Gr M' F' M2 F2) : Gr M F M2 F2 := ⟨h.fr.trans k.fr, h.kn.trans k.kn, fun b o hb => by
  rcases k.n b o hb with h1 | h1
  · exact h.n b o h1
  · refine .inr ?_
    cases hf : F b with
    | none => rfl
    | some o' => rw [h.fr b o' hf] at h1; cases h1⟩

theorem Ext.refl (k : Nat) (ρ : Nat → Loc) : Ext k ρ ρ := fun _ _ => rfl
theorem Ext.trans {k : Nat} {a b c : Nat → Loc} (h : Ext k a b) (h' : Ext k b c) : Ext k a c := fun n hn => (h' n hn).trans (h n hn)
theorem Ext.mono {k k' : Nat} {a b : Nat → Loc} (h : Ext k a b) (hk : k' ≤ k) : Ext k' a b := fun n hn => h n (Nat.lt_of_lt_of_le hn hk)
theorem Holds.le {ρ ρ' : Nat → Loc} {hp : List Ent} {M F : HL} {w : World} (h : Holds ρ hp M F w) (he : Ext hp.length ρ ρ') : Le ρ ρ' := by
  intro n x hx
  by_cases hn : n < hp.length
  · rw [he n hn]; exact hx
  · rw [h.dom n (by omega)] at hx; cases hx

/-- What a run of one piece leaves. -/
def Post (K : SV → List Ent → HL → Prop) (k : Nat) (ρ : Nat → Loc) (M F : HL) (w : World) (v : Value) (w' : World) : Prop :=
  ∃ sv ρ' hp' M' F', K sv hp' M' ∧ k ≤ hp'.length ∧ Ext k ρ ρ' ∧ Holds ρ' hp' M' F' w' ∧ Gr M F M' F' ∧ Same w w' ∧ Den ρ' sv v

theorem owns_lt {ρ : Nat → Loc} {hp : List Ent} {M F : HL} {w : World} (h : Holds ρ hp M F w) {n b : Nat} (ho : owns ρ hp n b) : b < w.heap.size := by
  obtain ⟨e, base, cap, h1, h2, h3⟩ := ho
  have := h.ent n e h1
  cases e with
  | gone => cases h2
  | cells e vs =>
    obtain ⟨b', cap', cs, h4, h5, _⟩ := this
    simp only [Lies] at h3
    rw [h3] at h4
    cases h4
    exact (Array.getElem?_eq_some_iff.1 h5).1
  | rcells e vs => cases h2
  | sub own N =>
    obtain ⟨o, h3⟩ := h3
    have h4 := (this b o h3).2
    simp only [Ent.own] at h2
    subst h2
    simp only [if_true] at h4
    exact (Array.getElem?_eq_some_iff.1 h4).1
  | row own e ck rows =>
    simp only [Ent.own] at h2
    subst h2
    obtain ⟨_, this⟩ := this
    simp only [Lies] at h3
    rw [h3] at this
    obtain ⟨cur, fr, h4, _⟩ := this
    simp only [if_true] at h4
    exact (Array.getElem?_eq_some_iff.1 h4.1).1

/-- An entry stands as it did while its own block (if it has one) and the frame stay. -/
theorem EntOK.keep {ρ ρ' : Nat → Loc} {M M' : HL} {w w' : World} {n : Nat} {e : Ent} (h : EntOK ρ M w n e) (hl : Le ρ ρ') (hn : ρ' n = ρ n) (hM : FLe M M')
    (hb : ∀ b base cap, e.own = true → Lies (ρ n) e b base cap → w'.heap[b]? = w.heap[b]?) : EntOK ρ' M' w' n e := by
  cases e with
  | gone => trivial
  | cells e vs =>
    obtain ⟨b, cap, cs, h1, h2, h3⟩ := h
    exact ⟨b, cap, cs, hn.trans h1, (hb b 0 cap rfl h1).trans h2, h3.mono hl⟩
  | rcells e vs =>
    obtain ⟨b, cap, cs, fr, h1, h2, h3⟩ := h
    exact ⟨b, cap, cs, fr, hn.trans h1, hM _ _ h2, h3.mono hl⟩
  | sub own N =>
    intro b o hN
    obtain ⟨h1, h2⟩ := h b o hN
    refine ⟨h1, ?_⟩
    cases own with
    | true => simp only [if_true] at h2 ⊢; exact (hb b 0 0 rfl ⟨o, hN⟩).trans h2
    | false => simp only [Bool.false_eq_true, if_false] at h2 ⊢; exact hM _ _ h2
  | row own e ck rows =>
    obtain ⟨h0, h⟩ := h
    refine ⟨h0, ?_⟩
    rw [hn]
    cases hr : ρ n with
    | none => rw [hr] at h; exact h
    | some x =>
      obtain ⟨b, base, cap⟩ := x
      rw [hr] at h
      obtain ⟨cur, fr, h1, h2, h3⟩ := h
      refine ⟨cur, fr, ?_, h2, h3⟩
      cases own with
      | true =>
        simp only [if_true] at h1 ⊢
        exact ⟨(hb b base cap rfl hr).trans h1.1, h1.2⟩
      | false =>
        simp only [Bool.false_eq_true, if_false] at h1 ⊢
        exact hM _ _ h1
theorem RowsIn.mono {M M' : HL} (h : FLe M M') {e : TypeId} {ck : List CK} {y : Value} {rows : List (List Value)} (hr : RowsIn M e ck y rows) : RowsIn M' e ck y rows := by
  obtain ⟨h0, h1 | ⟨b, base, c, cur, fr, h1, h2, h3, h4⟩⟩ := hr
  · exact ⟨h0, .inl h1⟩
  · exact ⟨h0, .inr ⟨b, base, c, cur, fr, h1, h2, h _ _ h3, h4⟩⟩
def slen : Value → Nat
  | .slice _ n _ => n
  | _ => 0
def scap : Value → Nat
  | .slice _ _ c => c
  | _ => 0
theorem RowsIn.len {M : HL} {e : TypeId} {ck : List CK} {y : Value} {rows : List (List Value)} (hr : RowsIn M e ck y rows) : slen y = rows.length := by
  obtain ⟨h0, ⟨rfl, a, rfl⟩ | ⟨b, base, c, cur, fr, rfl, _⟩⟩ := hr <;> rfl
theorem RowsIn.is {M : HL} {e : TypeId} {ck : List CK} {y : Value} {rows : List (List Value)} (hr : RowsIn M e ck y rows) : ∃ a n c, y = .slice a n c ∧ n ≤ c ∧ (a = none → n = 0) := by
  obtain ⟨h0, ⟨rfl, a, rfl⟩ | ⟨b, base, c, cur, fr, rfl, h, _⟩⟩ := hr
  · exact ⟨_, _, _, rfl, Nat.le_refl _, fun _ => rfl⟩
  · exact ⟨_, _, _, rfl, h, fun h => by cases h⟩

/-! ### Memory of one's own that holds many blocks -/
/-- One of two ways, as the prover chooses. -/
inductive Alt (A B : Prop) : Prop where
  | std (a : A)
  | exact (b : B)
def hasSub : List Ent → Bool
  | [] => false
  | e :: r => match e with
    | .sub _ _ => true
    | .gone => hasSub r
    | .cells _ _ => hasSub r
    | .row _ _ _ _ => hasSub r
    | .rcells _ _ => hasSub r
/-- The elements of a slice lie in what stays, or in a part of the heap that is one's own. -/
def RowsInE (M : HL) (e : TypeId) (ck : List CK) (y : Value) (rows : List (List Value)) : List Ent → Prop
  | [] => RowsIn M e ck y rows
  | x :: r => match x with
    | .sub _ N => RowsIn N e ck y rows ∨ RowsInE M e ck y rows r
    | .gone => RowsInE M e ck y rows r
    | .cells _ _ => RowsInE M e ck y rows r
    | .row _ _ _ _ => RowsInE M e ck y rows r
    | .rcells _ _ => RowsInE M e ck y rows r
/-- The block of a slice. -/
def blkOf : Value → Option Nat
  | .slice (some a) _ (_ + 1) => some a.block
  | _ => none
/-- A slice whose block is one's own, up to its capacity. -/
def OwnIn (N : HL) (e : TypeId) (ck : List CK) (y : Value) (rows : List (List Value)) : Prop :=
  0 < ck.length ∧ ((rows = [] ∧ ∃ a, y = .slice a 0 0) ∨ ∃ b base c cap cur, y = .slice (some ⟨b, base, none⟩) rows.length c ∧ rows.length ≤ c ∧ 0 < c ∧ c ≤ cap ∧ N b = some (.cells cur e (0, 0)) ∧
    cur.size = base + cap * ck.length ∧ cap ≤ maxLen ∧ RowAt ck cur base rows)
theorem OwnIn.rows {N : HL} {e : TypeId} {ck : List CK} {y : Value} {rows : List (List Value)} (h : OwnIn N e ck y rows) : RowsIn N e ck y rows := by
  obtain ⟨h0, h1 | ⟨b, base, c, cap, cur, h1, h2, h3, h4, h5, h6, h7, h8⟩⟩ := h
  · exact ⟨h0, .inl h1⟩
  · exact ⟨h0, .inr ⟨b, base, c, cur, (0, 0), h1, h2, h5, h8⟩⟩
theorem RowsIn.keep {N N' : HL} {e : TypeId} {ck : List CK} {y : Value} {rows : List (List Value)} (h : RowsIn N e ck y rows) (hk : ∀ b, blkOf y = some b → N' b = N b) : RowsIn N' e ck y rows := by
  obtain ⟨h0, h1 | ⟨b, base, c, cur, fr, h1, h2, h3, h4⟩⟩ := h
  · exact ⟨h0, .inl h1⟩
  · cases c with
    | zero => exact ⟨h0, .inl ⟨List.eq_nil_of_length_eq_zero (by omega), some ⟨b, base, none⟩, by rw [h1, show rows.length = 0 by omega]⟩⟩
    | succ c => exact ⟨h0, .inr ⟨b, base, c + 1, cur, fr, h1, h2, (hk b (by rw [h1]; rfl)).trans h3, h4⟩⟩
theorem OwnIn.keep {N N' : HL} {e : TypeId} {ck : List CK} {y : Value} {rows : List (List Value)} (h : OwnIn N e ck y rows) (hk : ∀ b, blkOf y = some b → N' b = N b) : OwnIn N' e ck y rows := by
  obtain ⟨h0, h1 | ⟨b, base, c, cap, cur, h1, h2, h3, h4, h5, h6⟩⟩ := h
  · exact ⟨h0, .inl h1⟩
  · obtain ⟨c, rfl⟩ : ∃ c', c = c' + 1 := ⟨c - 1, by omega⟩
    exact ⟨h0, .inr ⟨b, base, c + 1, cap, cur, h1, h2, h3, h4, (hk b (by rw [h1]; rfl)).trans h5, h6⟩⟩
theorem OwnIn.blk {N : HL} {e : TypeId} {ck : List CK} {y : Value} {rows : List (List Value)} (h : OwnIn N e ck y rows) {b : Nat} (hb : blkOf y = some b) : ∃ cur, N b = some (.cells cur e (0, 0)) := by
  obtain ⟨h0, ⟨_, a, rfl⟩ | ⟨b', base, c, cap, cur, rfl, h2, h3, h4, h5, h6⟩⟩ := h
  · cases a <;> cases hb
  · obtain ⟨c, rfl⟩ : ∃ c', c = c' + 1 := ⟨c - 1, by omega⟩
    cases hb
    exact ⟨cur, h5⟩

/-! ### Maps -/
def KT.val : KT → Int × Int → Value
  | .one k, p => .int k p.1
  | .two, p => .agg #[.int .i64 p.1, .int .i64 p.2]
def KT.same : KT → Int × Int → Int × Int → Bool
  | .one _, p, q => p.1 == q.1
  | .two, p, q => p.1 == q.1 && p.2 == q.2
/-- The map in block r is the function g. -/
def MapIn (N : HL) (r : Nat) (kt : KT) (g : Int × Int → Option Value) : Prop :=
  ∃ (es : Array MapEntry) (clock : Nat) (l : List ((Int × Int) × Value)), N r = some (.map es clock) ∧ es.toList.map (fun e => (e.key, e.val)) = l.map (fun x => (kt.val x.1, x.2)) ∧
    ∀ p, g p = (l.find? (fun x => kt.same x.1 p)).map (·.2)
def mset (kt : KT) (g : Int × Int → Option Value) (p : Int × Int) (v : Value) : Int × Int → Option Value := fun q => if kt.same p q then some v else g q
theorem MapIn.keep {N N' : HL} {r : Nat} {kt : KT} {g : Int × Int → Option Value} (h : MapIn N r kt g) (hk : N' r = N r) : MapIn N' r kt g := by
  obtain ⟨es, c, l, h1, h2⟩ := h
  exact ⟨es, c, l, hk.trans h1, h2⟩
/-- A heap with one block another. -/
def hput (N : HL) (b : Nat) (o : Option Obj) : HL := fun k => if k = b then o else N k
theorem hput_self (N : HL) (b : Nat) (o : Option Obj) : hput N b o b = o := by simp [hput]
theorem hput_ne (N : HL) {b k : Nat} (o : Option Obj) (h : k ≠ b) : hput N b o k = N k := by simp [hput, h]
end Go.Vc
/-
  Symbolic execution, part C: what one operation asks and leaves ('vcOp').
-/
namespace Go.Vc

def sget : List SV → Nat → SV
  | [], _ => .any
  | s :: _, 0 => s
  | _ :: r, n + 1 => sget r n
def ev (tm : List SV) : PArg → SV
  | .t n => sget tm n
  | .c s => s
def evL (tm : List SV) : List PArg → List SV
  | [] => []
  | x :: r => ev tm x :: evL tm r
def sset (x : SV) : List SV → Nat → (List SV → Prop) → Prop
  | [], _, K => K []
  | _ :: r, 0, K => K (x :: r)
  | s :: r, n + 1, K => sset x r n fun r' => K (s :: r')
def eget : List Ent → Nat → Ent
  | [], _ => .gone
  | s :: _, 0 => s
  | _ :: r, n + 1 => eget r n
def eset (x : Ent) : List Ent → Nat → (List Ent → Prop) → Prop
  | [], _, K => K []
  | _ :: r, 0, K => K (x :: r)
  | s :: r, n + 1, K => eset x r n fun r' => K (s :: r')
def epush (x : Ent) : List Ent → (List Ent → Prop) → Prop
  | [], K => K [x]
  | s :: r, K => epush x r fun r' => K (s :: r')
def llen {α : Type} : List α → Nat
  | [] => 0
  | _ :: r => llen r + 1
def dropN {α : Type} : List α → Nat → List α
  | l, 0 => l
  | [], _ + 1 => []
  | _ :: r, n + 1 => dropN r n
def takeN {α : Type} : List α → Nat → (List α → Prop) → Prop
  | _, 0, K => K []
  | s :: r, n + 1, K => takeN r n fun l => K (s :: l)
  | [], _ + 1, _ => False
/-- 'l' laid over 'vs' from place f on. -/
def overN {α : Type} (l : List α) : List α → Nat → (List α → Prop) → Prop
  | s :: r, f + 1, K => overN l r f fun r' => K (s :: r')
  | [], _ + 1, _ => False
  | vs, 0, K => go l vs K
where go : List α → List α → (List α → Prop) → Prop
  | [], vs, K => K vs
  | x :: l, _ :: vs, K => go l vs fun r => K (x :: r)
  | _ :: _, [], _ => False

theorem sset_iff (x : SV) : ∀ (l : List SV) (n : Nat) (K : List SV → Prop), sset x l n K ↔ K (l.set n x)
  | [], _, K => by simp [sset]
  | _ :: r, 0, K => by simp [sset]
  | s :: r, n + 1, K => by simp [sset, sset_iff x r n]
theorem eset_iff (x : Ent) : ∀ (l : List Ent) (n : Nat) (K : List Ent → Prop), eset x l n K ↔ K (l.set n x)
  | [], _, K => by simp [eset]
  | _ :: r, 0, K => by simp [eset]
  | s :: r, n + 1, K => by simp [eset, eset_iff x r n]
theorem epush_iff (x : Ent) : ∀ (l : List Ent) (K : List Ent → Prop), epush x l K ↔ K (l ++ [x])
  | [], K => by simp [epush]
  | s :: r, K => by simp [epush, epush_iff x r]
theorem llen_eq {α : Type} : ∀ l : List α, llen l = l.length
  | [] => rfl
  | _ :: r => by simp [llen, llen_eq r]
theorem dropN_eq {α : Type} : ∀ (l : List α) (n : Nat), dropN l n = l.drop n
  | _, 0 => by simp [dropN]
  | [], _ + 1 => by simp [dropN]
  | _ :: r, n + 1 => by simp [dropN, dropN_eq r n]
theorem takeN_iff {α : Type} : ∀ (l : List α) (n : Nat) (K : List α → Prop), takeN l n K ↔ (n ≤ l.length ∧ K (l.take n))
  | _, 0, K => by simp [takeN]
  | s :: r, n + 1, K => by simp [takeN, takeN_iff r n]
  | [], _ + 1, _ => by simp [takeN]
theorem overN_go {α : Type} : ∀ (l vs : List α) (K : List α → Prop), overN.go l vs K ↔ (l.length ≤ vs.length ∧ K (l ++ vs.drop l.length))
  | [], vs, K => by simp [overN.go]
  | x :: l, _ :: vs, K => by simp [overN.go, overN_go l vs]
  | _ :: _, [], _ => by simp [overN.go]
theorem overN_iff {α : Type} (l : List α) : ∀ (vs : List α) (f : Nat) (K : List α → Prop), overN l vs f K ↔ (f + l.length ≤ vs.length ∧ K (vs.take f ++ l ++ vs.drop (f + l.length)))
  | s :: r, f + 1, K => by
    simp only [overN, overN_iff l r f, List.length_cons, List.take_succ_cons, List.cons_append]
    rw [show f + 1 + l.length = (f + l.length) + 1 by omega, List.drop_succ_cons]
    simp only [Nat.add_le_add_iff_right]
  | [], _ + 1, _ => by simp [overN]
  | [], 0, K => by simp [overN, overN_go]
  | s :: r, 0, K => by simp [overN, overN_go]
theorem sget_some : ∀ {l : List SV} {n : Nat} {s : SV}, l[n]? = some s → sget l n = s
  | _ :: _, 0, _, h => by simpa [sget] using h
  | _ :: r, n + 1, _, h => by unfold sget; exact sget_some (by simpa using h)
  | [], _, _, h => by simp at h
theorem sget_none : ∀ {l : List SV} {n : Nat}, l[n]? = none → sget l n = .any
  | _ :: _, 0, h => by simp at h
  | _ :: r, n + 1, h => by unfold sget; exact sget_none (by simpa using h)
  | [], _, _ => rfl
theorem eget_ne {l : List Ent} {n : Nat} {e : Ent} (h : eget l n = e) (hne : e ≠ .gone) : l[n]? = some e := by
  induction l generalizing n with
  | nil => exact absurd h.symm hne
  | cons a r ih => cases n with
    | zero => simpa [eget] using h
    | succ n => simpa [eget] using ih h

def kEq : IntKind → IntKind → Bool
  | .i8, .i8 | .i16, .i16 | .i32, .i32 | .i64, .i64 | .u8, .u8 | .u16, .u16 | .u32, .u32 | .u64, .u64 => true
  | _, _ => false
theorem kEq_eq {a b : IntKind} (h : kEq a b = true) : a = b := by cases a <;> cases b <;> first | rfl | (simp [kEq] at h)

/-! ### Reads -/
def cellAt (rows : List (List Value)) (i f : Nat) : Value := (rows.getD i []).getD f undef
def readCK (k : CK) (x : Value) (K : SV → Prop) : Prop :=
  match k with
  | .int k => K (.v (.int k (toI x)))
  | .bool => K (.v (.bool (toB x)))
  | .raw => ∀ y, y = x → y.oneCell' = true → K (.v y)
  | .sl => K (.rsl x)
def readN (rows : List (List Value)) (i : Nat) : List CK → (f n : Nat) → (List SV → Prop) → Prop
  | _, _, 0, K => K []
  | k :: r, f, n + 1, K => readCK k (cellAt rows i f) fun s => readN rows i r (f + 1) n fun l => K (s :: l)
  | [], _, _ + 1, _ => False
def mcell (M : HL) (a : Addr) : Option Value :=
  match M a.block with
  | some (.cells c _ _) => if a.spot.isSome then none else c[a.off]?
  | _ => none
def vLoadC (vs : List SV) (w f : Nat) (s : Option Nat) (K : SV → Prop) : Prop :=
  match w, s with
  | 0, none => match dropN vs f with | y :: _ => K y | [] => False
  | 0, some m => takeN (dropN vs f) m fun l => K (.agg l)
  | _ + 1, _ => False
def vLoad (s : Option Nat) (x : SV) (hp : List Ent) (M : HL) (K : SV → Prop) : Prop :=
  match x with
  | .ptr n w i f => match eget hp n with
    | .cells _ vs => vLoadC vs w f s K
    | .rcells _ vs => vLoadC vs w f s K
    | .row _ _ ck rows => match Nat.beq w (llen ck) with
      | true => i < rows.length ∧ match s with
        | none => match dropN ck f with | k :: _ => readCK k (cellAt rows i f) K | [] => False
        | some m => readN rows i (dropN ck f) f m fun l => K (.agg l)
      | false => False
    | .gone => False
    | .sub _ _ => False
  | .v (.pointer (some a)) => match s with
    | none => ∃ y, mcell M a = some y ∧ K (.v y)
    | some _ => False
  | .rpt y w i f => ∃ e ck rows, RowsInE M e ck y rows hp ∧ match Nat.beq w (llen ck) with
    | true => i < rows.length ∧ match s with
      | none => match dropN ck f with | k :: _ => readCK k (cellAt rows i f) K | [] => False
      | some m => readN rows i (dropN ck f) f m fun l => K (.agg l)
    | false => False
  | _ => False

/-! ### Writes -/
def SV.one : SV → Bool
  | .v x => x.oneCell'
  | .ptr .. | .slc .. | .emp | .fn .. | .ifc .. | .rsl .. | .rpt .. | .slx .. => true
  | .via _ x => x.oneCell'
  | _ => false
def flat (y : SV) (K : List SV → Prop) : Prop :=
  match y with
  | .agg l => K l
  | .tup _ | .any => False
  | .v x => K [.v x]
  | .ptr n w i f => K [.ptr n w i f]
  | .slc n w i len => K [.slc n w i len]
  | .emp => K [.emp]
  | .fn f a b => K [.fn f a b]
  | .ifc t x => K [.ifc t x]
  | .rsl y => K [.rsl y]
  | .rpt y w i f => K [.rpt y w i f]
  | .slx n w len c => K [.slx n w len c]
  | .via n x => K [.via n x]
def oneL : List SV → Bool
  | [] => true
  | s :: r => match s.one with | true => oneL r | false => false
/-- Values that fit kinds. -/
def valsOf : List CK → List SV → (List Value → Prop) → Prop
  | _, [], K => K []
  | .int k :: r, .v (.int k' a) :: l, K => match kEq k k' with | true => valsOf r l fun vs => K (.int k a :: vs) | false => False
  | .bool :: r, .v (.bool a) :: l, K => valsOf r l fun vs => K (.bool a :: vs)
  | .raw :: r, .v x :: l, K => match x.oneCell' with | true => valsOf r l fun vs => K (x :: vs) | false => False
  | .sl :: r, .rsl y :: l, K => valsOf r l fun vs => K (y :: vs)
  | .sl :: r, .v (.slice none 0 0) :: l, K => valsOf r l fun vs => K (.slice none 0 0 :: vs)
  | _, _, _ => False
def over (r : List Value) (f : Nat) (vals : List Value) : List Value := r.take f ++ vals ++ r.drop (f + vals.length)
/-- Slices that are laid into a row: their blocks stay as they are from now on. -/
def frz1 (s : SV) (hp : List Ent) (M : HL) (K : SV → List Ent → HL → Prop) : Prop :=
  match s with
  | .emp => ∀ a, K (.rsl (.slice a 0 0)) hp M
  | .slc n w i len => match eget hp n with
    | .row true e ck rows => match Nat.beq w (llen ck) with
      | true => match hasSub hp with
        | false => i + len ≤ rows.length ∧ ∀ (y : Value) (M' : HL), FLe M M' → RowsIn M' e ck y ((rows.drop i).take len) → eset (.row false e ck rows) hp n fun hp' => K (.rsl y) hp' M'
        | true => Alt (i + len ≤ rows.length ∧ ∀ (y : Value) (M' : HL), FLe M M' → RowsIn M' e ck y ((rows.drop i).take len) → eset (.row false e ck rows) hp n fun hp' => K (.rsl y) hp' M')
          (∃ (m : Nat) (N : HL), hp[m]? = some (.sub true N) ∧ i + len ≤ rows.length ∧ ∀ (y : Value) (N' : HL), FLe N N' → OwnIn N' e ck y ((rows.drop i).take len) → (∀ b, blkOf y = some b → N b = none) →
            eset .gone hp n fun hp1 => eset (.sub true N') hp1 m fun hp' => K (.rsl y) hp' M)
      | false => False
    | .row false e ck rows => match Nat.beq w (llen ck) with
      | true => i + len ≤ rows.length ∧ ∀ (y : Value), RowsIn M e ck y ((rows.drop i).take len) → K (.rsl y) hp M
      | false => False
    | _ => False
  | .v x => K (.v x) hp M
  | .ptr n w i f => K (.ptr n w i f) hp M
  | .agg l => K (.agg l) hp M
  | .tup l => K (.tup l) hp M
  | .fn f a b => K (.fn f a b) hp M
  | .ifc t x => K (.ifc t x) hp M
  | .rsl y => K (.rsl y) hp M
  | .rpt y w i f => K (.rpt y w i f) hp M
  | .slx n w len c => match eget hp n with
    | .row true e ck rows => match Nat.beq w (llen ck) with
      | true => len ≤ rows.length ∧ ∀ (y : Value) (M' : HL), FLe M M' → RowsIn M' e ck y (rows.take len) → scap y = c → eset (.row false e ck rows) hp n fun hp' => K (.rsl y) hp' M'
      | false => False
    | _ => False
  | .via n x => K (.via n x) hp M
  | .any => K .any hp M
def frzL : List SV → List Ent → HL → (List SV → List Ent → HL → Prop) → Prop
  | [], hp, M, K => K [] hp M
  | s :: r, hp, M, K => frz1 s hp M fun s' hp' M' => frzL r hp' M' fun l hp' M' => K (s' :: l) hp' M'
def hasRef : List SV → Bool
  | [] => false
  | .slc .. :: _ => true
  | .emp :: _ => true
  | .slx .. :: _ => true
  | _ :: r => hasRef r
/-- Is it a row of one's own that is written? -/
def toRow (x : SV) (hp : List Ent) : Bool :=
  match x with
  | .ptr n _ _ _ => match eget hp n with
    | .row true _ _ _ => true
    | _ => false
  | .rpt .. => hasSub hp
  | _ => false
def vStore0 (m : Nat) (x : SV) (l : List SV) (hp : List Ent) (K : List Ent → Prop) : Prop :=
  match Nat.beq (llen l) m with
  | true => match x with
    | .ptr n w i f => match eget hp n with
      | .cells e vs => match w, oneL l with
        | 0, true => overN l vs f fun vs' => eset (.cells e vs') hp n K
        | _, _ => False
      | .row true e ck rows => match Nat.beq w (llen ck), Nat.ble (f + m) (llen ck) with
        | true, true => i < rows.length ∧ valsOf (dropN ck f) l fun vals => eset (.row true e ck (rows.set i (over (rows.getD i []) f vals))) hp n K
        | _, _ => False
      | _ => False
    | .rpt y w i f => ∃ (n : Nat) (N : HL) (e : TypeId) (ck : List CK) (rows : List (List Value)), hp[n]? = some (.sub true N) ∧ RowsIn N e ck y rows ∧ i < rows.length ∧
      match Nat.beq w (llen ck), Nat.ble (f + m) (llen ck) with
      | true, true => valsOf (dropN ck f) l fun vals => ∀ N', (∀ b, blkOf y ≠ some b → N' b = N b) → RowsIn N' e ck y (rows.set i (over (rows.getD i []) f vals)) →
          (OwnIn N e ck y rows → OwnIn N' e ck y (rows.set i (over (rows.getD i []) f vals))) → eset (.sub true N') hp n K
      | _, _ => False
    | _ => False
  | false => False
def vStore (m : Nat) (x y : SV) (hp : List Ent) (M : HL) (K : List Ent → HL → Prop) : Prop :=
  flat y fun l => match hasRef l, toRow x hp, oneL l with
  | true, true, true => frzL l hp M fun l' hp' M' => vStore0 m x l' hp' fun hp2 => K hp2 M'
  | _, _, _ => vStore0 m x l hp fun hp2 => K hp2 M

/-! ### Integers, comparisons -/
def vBin (op : BinOp) (x y : SV) (K : SV → Prop) : Prop :=
  match x, y with
  | .v (.int k a), .v (.int k' b) => match op with
    | .shl => 0 ≤ b ∧ K (.v (.int k (k.wrap (a * 2 ^ (min b.toNat k.bits)))))
    | .shr => 0 ≤ b ∧ K (.v (.int k (a.fdiv (2 ^ (min b.toNat k.bits)))))
    | op => match kEq k k' with
      | true => match op with
        | .add => K (.v (.int k (k.wrap (a + b))))
        | .sub => K (.v (.int k (k.wrap (a - b))))
        | .mul => K (.v (.int k (k.wrap (a * b))))
        | .quo => b ≠ 0 ∧ K (.v (.int k (k.wrap (a.tdiv b))))
        | .rem => b ≠ 0 ∧ K (.v (.int k (a.tmod b)))
        | .and => K (.v (.int k (k.wrap (BitVec.ofInt k.bits a &&& BitVec.ofInt k.bits b).toNat)))
        | .or => K (.v (.int k (k.wrap (BitVec.ofInt k.bits a ||| BitVec.ofInt k.bits b).toNat)))
        | .xor => K (.v (.int k (k.wrap (BitVec.ofInt k.bits a ^^^ BitVec.ofInt k.bits b).toNat)))
        | .andNot => K (.v (.int k (k.wrap (BitVec.ofInt k.bits a &&& ~~~BitVec.ofInt k.bits b).toNat)))
        | .eql => K (.v (.bool (a == b)))
        | .neq => K (.v (.bool (a != b)))
        | .lss => K (.v (.bool (decide (a < b))))
        | .leq => K (.v (.bool (decide (a ≤ b))))
        | .gtr => K (.v (.bool (decide (a > b))))
        | .geq => K (.v (.bool (decide (a ≥ b))))
        | _ => False
      | false => False
  | _, _ => False
def vEqb (ne : Bool) (x y : SV) (K : SV → Prop) : Prop :=
  match x, y with
  | .v (.bool a), .v (.bool b) => match ne with
    | false => K (.v (.bool (a == b)))
    | true => K (.v (.bool (!(a == b))))
  | _, _ => False
def vUn (op : UnOp) (x : SV) (K : SV → Prop) : Prop :=
  match op, x with
  | .neg, .v (.int k n) => K (.v (.int k (k.wrap (0 - n))))
  | .xor, .v (.int k n) => K (.v (.int k (k.wrap (BitVec.ofInt k.bits (if k.signed then -1 else k.max) ^^^ BitVec.ofInt k.bits n).toNat)))
  | .not, .v (.bool b) => K (.v (.bool !b))
  | _, _ => False
/-- Comparisons of pointers (0), interfaces (1), functions (2); 'c': one side is written as a constant. -/
def vEq0 (x y : SV) (K : Bool → Prop) : Prop :=
  match x, y with
  | .ptr .., .v (.pointer none) | .v (.pointer none), .ptr .. | .rpt .., .v (.pointer none) | .v (.pointer none), .rpt .. | .v (.pointer (some _)), .v (.pointer none) | .v (.pointer none), .v (.pointer (some _)) => K false
  | .v (.pointer none), .v (.pointer none) => K true
  | _, _ => False
def vEq1 (c : Bool) (x y : SV) (K : Bool → Prop) : Prop :=
  match x, y with
  | .v .nilIface, .v .nilIface => match c with | true => K true | false => False
  | .v .nilIface, .ifc _ _ | .ifc _ _, .v .nilIface | .v .nilIface, .v (.iface _ _) | .v (.iface _ _), .v .nilIface => K false
  | _, _ => False
def vEq2 (x y : SV) (K : Bool → Prop) : Prop :=
  match x, y with
  | .v .nilFunc, .v .nilFunc => K true
  | .fn .., .v .nilFunc => K false
  | _, _ => False
/-- A slice against nil. -/
def vEq3 (x y : SV) (K : Bool → Prop) : Prop :=
  match y with
  | .v (.slice none _ _) => match x with
    | .v (.slice none _ _) => K true
    | .v (.slice (some _) _ _) => K false
    | .slc _ _ _ len => (0 < len → K false) ∧ (len = 0 → K true ∧ K false)
    | .emp => K true ∧ K false
    | .rsl y => (0 < slen y → K false) ∧ (slen y = 0 → K true ∧ K false)
    | _ => False
  | _ => False
def vEq (k : Nat) (c : Bool) (x y : SV) (K : Bool → Prop) : Prop :=
  match k with
  | 0 => vEq0 x y K
  | 1 => vEq1 c x y K
  | 2 => vEq2 x y K
  | _ => vEq3 x y K
end Go.Vc
