/-
  Symbolic execution of the model's code, part A: symbolic values, a compact form of the code, and the (computable) translation into it.
-/
import Derived.WalkKit
import Derived.KernelRfl
namespace Go.Vc

/-- What a cell of a row holds. -/
inductive CK where
  | int (k : IntKind) | bool | raw | sl
  deriving Repr, Inhabited, DecidableEq

/-- Symbolic values. 'n' are local names of blocks. -/
inductive SV where
  | v (x : Value)
  | ptr (n w i f : Nat)
  | slc (n w i len : Nat)
  | emp
  | agg (l : List SV)
  | tup (l : List SV)
  | fn (f : Fn) (first caps : List SV)
  | ifc (t : TypeId) (x : SV)
  | rsl (y : Value)
  | rpt (y : Value) (w i f : Nat)
  | slx (n w len c : Nat)
  | any
  deriving Inhabited

def SV.ofV : Value → SV
  | .agg cs => .agg (cs.toList.map .v)
  | .tuple vs => .tup (vs.toList.map .v)
  | x => .v x

inductive PArg where
  | t (n : Nat) | c (s : SV)
  deriving Inhabited

inductive POp where
  | mov (x : PArg)
  | pick (c a b : PArg)
  | box (e : TypeId) (x : PArg)
  | build (zero : List SV) (parts : List (Nat × Nat × PArg))
  | bslice (e : TypeId) (cks : List CK) (n : Nat) (zero : List SV) (parts : List (Nat × Nat × PArg))
  | load (s : Option Nat) (a : PArg)
  | store (s : Nat) (a x : PArg)
  | nilck (x : PArg)
  | bin (op : BinOp) (x y : PArg)
  | eqp (k : Nat) (c : Bool) (ne : Bool) (x y : PArg)
  | eqb (ne : Bool) (x y : PArg)
  | un (op : UnOp) (x : PArg)
  | conv (k : IntKind) (x : PArg)
  | iface (t : TypeId) (x : PArg)
  | clo (f : Fn) (first caps : List PArg)
  | mslice (e : TypeId) (cks : List CK) (zero : List Value) (bytes : Nat) (l c : PArg)
  | slice (w : Nat) (x : PArg) (lo hi mx : Option PArg)
  | fld (off : Nat) (x : PArg)
  | part (off : Nat) (s : Option Nat) (x : PArg)
  | idx (w : Nat) (x i : PArg)
  | idxa (len w : Nat) (x i : PArg)
  | ixv (len : Nat) (x i : PArg)
  | ext (x : PArg) (i : Nat)
  | call (f : Nat) (args : List PArg)
  | callv (g : PArg) (args : List PArg)
  | len (x : PArg)
  | cap (x : PArg)
  | append (e : TypeId) (cks : List CK) (zero : List Value) (bytes : Nat) (s x : PArg)
  | appendz (e : TypeId) (cks : List CK) (zero : List Value) (bytes : Nat) (s x : PArg)
  | copy (w : Nat) (d s : PArg)
  | minmax (mx : Bool) (xs : List PArg)
  | clr (e : TypeId) (cks : List CK) (zero : List Value) (x : PArg)
  | tassert (asserted : TypeId) (ok : Bool) (zero : SV) (x : PArg)
  | mkmap
  | mapget (t : TypeId) (zero : Value) (m k : PArg) (ok : Bool)
  | mapput (t : TypeId) (m k x : PArg)
  | bad (why : String)
  deriving Inhabited

structure PO where
  dst : Option Nat
  op : POp
  guard : Option (Nat × Bool) := none
  deriving Inhabited

/-- How a region whose order is drawn is walked. -/
inductive DT where
  | done
  | take (i : Nat) (deps : List Nat) (r : DT)
  | eff (quiet : Bool) (i : Nat) (r : DT)
  | both (a b : DT)
  deriving Inhabited

inductive PCode where
  | skip | ret
  | ops (draw : Bool) (l : List PO) (dt : DT)
  | seq (a b : PCode)
  | cond (c : PArg) (a b : PCode)
  | block (id : Nat) (c : PCode)
  | loop (c : PCode)
  | exit (id : Nat)
  | rangef (f : PArg) (bk : List (Nat × Option Nat)) (params : List Nat) (a b : PCode)
  | bad (why : String)
  | cut (c : PCode)
  deriving Inhabited
/-- The functions that are slices.Backward's closures, with the size of an element that is made of cells: kept at a plan's number 999999. -/
def bkOf : DT → List (Nat × Option Nat)
  | .take i deps r => (i, deps.head?) :: bkOf r
  | _ => []
/-- A mark at a region's plan: its ways meet again behind it. -/
def cutOf : DT → Option DT
  | .eff _ i r => if i = 1000000 then some r else none
  | _ => none

def isNeq : BinOp → Bool
  | .neq => true
  | _ => false
def isNil0 : Value → Bool
  | .slice none 0 0 => true
  | _ => false
def CK.fitsB : CK → Value → Bool
  | .int k, .int k' _ => k == k'
  | .bool, .bool _ => true
  | .sl, x => isNil0 x
  | .raw, .agg _ | .raw, .tuple _ => false
  | .raw, _ => true
  | _, _ => false
def fitsAll : List CK → List Value → Bool
  | [], [] => true
  | k :: r, x :: l => k.fitsB x && fitsAll r l
  | _, _ => false

section
variable (P : Program)

def isConstO : Operand → Bool
  | .const _ => true
  | _ => false
def carg : Operand → PArg
  | .tmp n => .t n
  | .const v => .c (.ofV v)
  | .global g => .c (.v (.pointer (some ⟨g, 0, none⟩)))
  | .func f => .c (.fn (.func f) [] [])

/-- The kind of each cell of a type. -/
def ckOf : (depth : Nat) → TypeId → List CK
  | 0, _ => []
  | d + 1, t => match P.underlying t with
    | some (.int k) => [.int k]
    | some .bool => [.bool]
    | some (.slice _) => [.sl]
    | some (.struct fs) => fs.toList.flatMap fun f => ckOf d f.type
    | some (.array n e) => (List.range n).flatMap fun _ => ckOf d e
    | _ => [.raw]

def cks (t : TypeId) : List CK := ckOf P 12 t
def szOf (t : TypeId) : Nat := ((P.info? t).map (·.size)).getD 0
def byOf (t : TypeId) : Nat := ((P.info? t).map (·.bytes)).getD 0
def zeroOf (t : TypeId) : Option Value := (P.info? t).bind (·.zero)
def isAggT (t : TypeId) : Bool := match P.underlying t with | some (.struct _) => true | some (.array ..) => true | _ => false
def sizeO (t : TypeId) : Option Nat := if isAggT P t then some (szOf P t) else none
def elemT (t : TypeId) : TypeId := match P.underlying t with | some (.slice e) => e | some (.array _ e) => e | _ => 0
def fieldOf (t : TypeId) (f : Nat) : Option (Nat × TypeId) :=
  match P.underlying t with
  | some (.struct fs) => (fs[f]?).map fun x => (x.offset, x.type)
  | _ => none

/-- Where the i-th part of a value lies: its first cell, its size. -/
def placesOf (t : TypeId) : Option (Nat → Option (Nat × Nat)) :=
  match P.underlying t with
  | some (.struct fs) => (fs.toList.mapM (fun f => (P.info? f.type).map fun i => (f.offset, i.size))).map fun places => (places.toArray[·]?)
  | some (.array _ e) => (P.info? e).map fun ie => fun i => some (i * ie.size, ie.size)
  | _ => none
def partsBy (pl : Nat → Option (Nat × Nat)) (ps : Array (Nat × Operand)) : Option (List (Nat × Nat × PArg)) :=
  ps.toList.mapM fun x => (pl x.1).map fun (o, s) => (o, s, carg x.2)
def partsOf (t : TypeId) (ps : Array (Nat × Operand)) : Option (List (Nat × Nat × PArg)) :=
  (placesOf P t).bind fun pl => partsBy pl ps

def cop (o : Oper) : POp :=
  match o.op with
  | .move x | .assign x => .mov (carg x)
  | .pick c a b => .pick (carg c) (carg a) (carg b)
  | .alloc e => match zeroOf P e with | some z => .box e (.c (.ofV z)) | none => .bad "alloc"
  | .box e x => .box e (carg x)
  | .build t ps => match zeroOf P t, partsOf P t ps with | some z, some l => .build (z.cells.toList.map .v) l | _, _ => .bad "build"
  | .buildSlice t n ps =>
    match P.underlying t with
    | some (.slice e) => match zeroOf P e, partsBy (fun i => some (i * szOf P e, szOf P e)) ps with
      | some z, some l => if z.cells.size = szOf P e ∧ 0 < szOf P e ∧ szOf P e = (cks P e).length ∧ n * szOf P e ≤ 16777216 then .bslice e (cks P e) n (((Array.range (n * szOf P e)).map (z.cells[· % z.cells.size]!)).toList.map .v) l else .bad "buildSlice"
      | _, _ => .bad "buildSlice"
    | _ => .bad "buildSlice"
  | .load t a => if (P.underlying t).isSome = true ∧ (P.info? t).isSome = true then .load (sizeO P t) (carg a) else .bad "load"
  | .store t a x => if (P.info? t).isSome = true then .store (szOf P t) (carg a) (carg x) else .bad "store"
  | .nilCheck x => .nilck (carg x)
  | .binOp op t x y _ =>
    match op with
    | .eql | .neq => match P.underlying t with
      | some (.int _) => .bin op (carg x) (carg y)
      | some .bool => .eqb (isNeq op) (carg x) (carg y)
      | some (.pointer _) => .eqp 0 (isConstO x || isConstO y) (isNeq op) (carg x) (carg y)
      | some (.interface _) => .eqp 1 (isConstO x || isConstO y) (isNeq op) (carg x) (carg y)
      | some (.func ..) => .eqp 2 (isConstO x || isConstO y) (isNeq op) (carg x) (carg y)
      | some (.slice _) => .eqp 3 (isConstO x || isConstO y) (isNeq op) (carg x) (carg y)
      | _ => .bad "=="
    | _ => .bin op (carg x) (carg y)
  | .unOp op _ x => .un op (carg x)
  | .convert s d x => match P.underlying s, P.underlying d with | some (.int _), some (.int k) => .conv k (carg x) | _, _ => .bad "convert"
  | .makeInterface t x => if P.concrete t = true then .iface t (carg x) else .bad "makeInterface"
  | .makeFunc f a b => .clo f (a.toList.map carg) (b.toList.map carg)
  | .makeMap .. => .mkmap
  | .makeSlice t l c => match P.underlying t with
    | some (.slice e) => match zeroOf P e with
      | some z => if fitsAll (cks P e) z.cells.toList = true ∧ szOf P e = (cks P e).length then .mslice e (cks P e) z.cells.toList (byOf P e) (carg l) (carg c) else .bad "makeSlice"
      | _ => .bad "makeSlice"
    | _ => .bad "makeSlice"
  | .slice t x lo hi mx => match P.underlying t with
    | some (.slice e) => if (P.info? e).isSome = true then .slice (szOf P e) (carg x) (lo.map carg) (hi.map carg) (mx.map carg) else .bad "slice"
    | _ => .bad "slice of no slice"
  | .fieldAddr t x f => match fieldOf P t f with | some (off, ft) => if szOf P ft = 0 then .bad "field of size 0" else .fld off (carg x) | none => .bad "fieldAddr"
  | .field t x f => match fieldOf P t f with | some (off, ft) => if (P.underlying ft).isSome = true ∧ (P.info? ft).isSome = true then .part off (sizeO P ft) (carg x) else .bad "field" | none => .bad "field"
  | .indexAddr t x i => match P.underlying t with
    | some (.slice e) => if (P.info? e).isSome = true then .idx (szOf P e) (carg x) (carg i) else .bad "idx"
    | some (.array n e) => if (P.info? e).isSome = true then .idxa n (szOf P e) (carg x) (carg i) else .bad "idxa"
    | _ => .bad "indexAddr"
  | .extract x i => .ext (carg x) i
  | .call c => match c.callee with
    | .value (.func f) => .call f (c.args.toList.map carg)
    | .value g => .callv (carg g) (c.args.toList.map carg)
    | .builtin .len => match c.args.toList, c.argTypes.toList with
      | [x], [t] => match P.underlying t with | some (.slice _) => .len (carg x) | _ => .bad "len of no slice"
      | _, _ => .bad "len"
    | .builtin .cap => match c.args.toList, c.argTypes.toList with
      | [x], [t] => match P.underlying t with | some (.slice _) => .cap (carg x) | _ => .bad "cap of no slice"
      | _, _ => .bad "cap"
    | .builtin .append => match c.args.toList, c.argTypes.toList with
      | [s, x], [t, u] => match P.underlying t, P.underlying u with
        | some (.slice e), some (.slice _) => match zeroOf P e with
          | some z => if z.cells.size = szOf P e ∧ szOf P e = (cks P e).length ∧ 0 < byOf P e then .append e (cks P e) z.cells.toList (byOf P e) (carg s) (carg x) else .bad "append"
          | none => .bad "append"
        | some (.slice e), some (.int _) => match zeroOf P e with
          | some z => if fitsAll (cks P e) z.cells.toList = true ∧ szOf P e = (cks P e).length ∧ 0 < byOf P e then .appendz e (cks P e) z.cells.toList (byOf P e) (carg s) (carg x) else .bad "append of zeros"
          | none => .bad "append"
        | _, _ => .bad "append"
      | _, _ => .bad "append"
    | .builtin .copy => match c.args.toList, c.argTypes.toList with
      | [s, x], [t, _] => match P.underlying t with
        | some (.slice e) => .copy (szOf P e) (carg s) (carg x)
        | _ => .bad "copy"
      | _, _ => .bad "copy"
    | .builtin .max => .minmax true (c.args.toList.map carg)
    | .builtin .min => .minmax false (c.args.toList.map carg)
    | .builtin .clear => match c.args.toList, c.argTypes.toList with
      | [x], [t] => match P.underlying t with
        | some (.slice e) => match zeroOf P e with
          | some z => if fitsAll (cks P e) z.cells.toList = true ∧ szOf P e = (cks P e).length then .clr e (cks P e) z.cells.toList (carg x) else .bad "clear"
          | none => .bad "clear"
        | _ => .bad "clear"
      | _, _ => .bad "clear"
    | .builtin b => .bad ("builtin " ++ (toString (repr b)))
    | .invoke _ m => .bad ("invoke " ++ m)
  | .typeAssert x _ a ok => match zeroOf P a with | some z => if P.concrete a = true then .tassert a ok (.ofV z) (carg x) else .bad "typeAssert" | none => .bad "typeAssert"
  | .lookup t m k ok => match P.underlying t with | some (.map _ e) => (match zeroOf P e with | some z => .mapget t z (carg m) (carg k) ok | none => .bad "lookup") | _ => .bad "lookup"
  | .mapUpdate t m k x => .mapput t (carg m) (carg k) (carg x)
  | .index t x i => match P.underlying t with
    | some (.array n e) => if (P.underlying e).isSome = true ∧ (P.info? e).isSome = true ∧ isAggT P e = false ∧ szOf P e = 1 then .ixv n (carg x) (carg i) else .bad "index"
    | _ => .bad "index"
  | _ => .bad "an operation"

def cpo (ops : Array Oper) (o : Oper) : PO :=
  { dst := o.dst, op := cop P o, guard := o.guard.bind fun (j, want) => ((ops[j]?).bind (·.dst)).map fun t => (t, want) }

def ccode (pl : Nat → DT) : Code → PCode
  | .skip => .skip
  | .ret => .ret
  | .region id ops draw => match cutOf (pl id) with
    | some r => .cut (.ops draw (ops.toList.map (cpo P ops)) (if draw then r else .done))
    | none => .ops draw (ops.toList.map (cpo P ops)) (if draw then pl id else .done)
  | .seq a b => .seq (ccode pl a) (ccode pl b)
  | .cond c a b => .cond (carg c) (ccode pl a) (ccode pl b)
  | .block id c => .block id (ccode pl c)
  | .loop c => .loop (ccode pl c)
  | .exit id => .exit id
  | .rangeFunc f ps a b => .rangef (carg f) (bkOf (pl 999999)) ps.toList (ccode pl a) (ccode pl b)
  | .scope _ => .bad "scope" | .label _ => .bad "label" | .goto _ => .bad "goto" | .refuse w => .bad ("refuse " ++ w)
end
end Go.Vc
