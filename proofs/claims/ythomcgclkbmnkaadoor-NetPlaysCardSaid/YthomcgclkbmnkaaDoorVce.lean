/-
  Symbolic execution, part E: one operation.
-/
import Derived.Test.YthomcgclkbmnkaaDoorVcd
namespace Go.Vc

/-- Two ways, by a test. -/
structure Cnd (b : Bool) (A B : Prop) : Prop where
  t : b = true → A
  f : b = false → B
theorem Cnd.yes {A B : Prop} (h : A) : Cnd true A B := ⟨fun _ => h, (fun h => by cases h)⟩
theorem Cnd.no {A B : Prop} (h : B) : Cnd false A B := ⟨(fun h => by cases h), fun _ => h⟩

abbrev Trans := List SV → List Ent → HL → (SV → List Ent → HL → Prop) → Prop

/-- Parts laid over a value's cells. -/
def vParts (tm : List SV) : List (Nat × Nat × PArg) → List SV → (List SV → Prop) → Prop
  | [], acc, K => K acc
  | (off, size, x) :: r, acc, K => flat (ev tm x) fun l => match Nat.beq (llen l) size, oneL l with
    | true, true => overN l acc off fun acc' => vParts tm r acc' K
    | _, _ => False
def plainL : List SV → Bool
  | [] => true
  | .v _ :: r => plainL r
  | .rsl _ :: r => plainL r
  | _ :: _ => false
/-- n rows of values. -/
def rowsOf (ck : List CK) : Nat → List SV → (List (List Value) → Prop) → Prop
  | 0, _, K => K []
  | n + 1, l, K => takeN l (llen ck) fun h => valsOf ck h fun vs => rowsOf ck n (dropN l (llen ck)) fun rs => K (vs :: rs)
def vFold (mx : Bool) (k : IntKind) : List SV → Int → (SV → Prop) → Prop
  | [], a, K => K (.v (.int k a))
  | .v (.int _ b) :: r, a, K => match mx with
    | true => vFold mx k r (if b > a then b else a) K
    | false => vFold mx k r (if b < a then b else a) K
  | _, _, _ => False
/-- A slice's bound: a number that is there, or the default. -/
def vBound (tm : List SV) (x : Option PArg) (d : Nat) (K : Int → Prop) : Prop :=
  match x with
  | none => K (d : Int)
  | some p => match ev tm p with
    | .v (.int _ i) => K i
    | _ => False
def isNilS : SV → Bool
  | .emp => true
  | .v (.slice none 0 0) => true
  | _ => false
/-- The rows that a slice shows. -/
def vRows (x : SV) (ck : List CK) (hp : List Ent) (M : HL) (K : Nat → List (List Value) → Prop) : Prop :=
  match isNilS x with
  | true => K 0 []
  | false => match x with
    | .slc m w j n => match eget hp m with
      | .row _ _ ck' rows => match decide (ck' = ck), Nat.beq w (llen ck) with
        | true, true => j + n ≤ rows.length ∧ K n ((rows.drop j).take n)
        | _, _ => False
      | _ => False
    | .rsl y => ∃ e rows, RowsIn M e ck y rows ∧ K rows.length rows
    | _ => False

/-- The value itself, its form brought to light. -/
def force (s : SV) (K : SV → Prop) : Prop :=
  match s with
  | .v x => K (.v x)
  | .ptr n w i f => K (.ptr n w i f)
  | .slc n w i len => K (.slc n w i len)
  | .emp => K .emp
  | .agg l => K (.agg l)
  | .tup l => K (.tup l)
  | .fn f a b => K (.fn f a b)
  | .ifc t x => K (.ifc t x)
  | .rsl y => K (.rsl y)
  | .rpt y w i f => K (.rpt y w i f)
  | .slx n w len c => K (.slx n w len c)
  | .any => K .any
theorem force_eq (s : SV) (K : SV → Prop) : force s K = K s := by cases s <;> rfl
def evK (tm : List SV) : List PArg → (List SV → Prop) → Prop
  | [], K => K []
  | x :: r, K => force (ev tm x) fun s => evK tm r fun l => K (s :: l)
theorem evK_eq (tm : List SV) : ∀ (l : List PArg) (K : List SV → Prop), evK tm l K = K (evL tm l)
  | [], _ => rfl
  | x :: r, K => by simp only [evK, force_eq, evK_eq tm r, evL]
def isI0 : SV → Bool
  | .v (.int _ 0) => true
  | _ => false
def isO {α : Type} : Option α → Bool
  | none => false
  | some _ => true
/-- A length, as a numeral. -/
def lits : List Nat := [0, 1, 2, 3, 4, 5, 6, 7, 8, 9, 10, 11, 12, 13, 14, 15, 16, 17, 18, 19, 20, 21, 22, 23, 24, 25, 26, 27, 28, 29, 30, 31, 32, 33, 34, 35, 36, 37, 38, 39, 40, 41, 42, 43, 44, 45, 46, 47]
def lenG {α : Type} (l0 : List α) : List α → List Nat → (Nat → Prop) → Prop
  | [], n :: _, K => K n
  | _ :: r, _ :: ns, K => lenG l0 r ns K
  | _, [], K => K (llen l0)
def lenK {α : Type} (l : List α) (K : Nat → Prop) : Prop := lenG l l lits K
theorem lenG_eq {α : Type} (l0 : List α) : ∀ (l : List α) (ns : List Nat) (K : Nat → Prop) (k : Nat), (∀ (i n : Nat), ns[i]? = some n → n = k + i) → llen l0 = k + llen l → lenG l0 l ns K = K (llen l0)
  | [], n :: ns, K, k, h, h0 => by
    have := h 0 n rfl
    simp only [lenG]
    rw [h0, this]
    rfl
  | _ :: r, m :: ns, K, k, h, h0 => by
    simp only [lenG]
    exact lenG_eq l0 r ns K (k + 1) (fun i n hi => by rw [h (i + 1) n (by simpa using hi)]; omega) (by rw [h0]; simp only [llen]; omega)
  | [], [], K, _, _, _ => by simp [lenG]
  | _ :: _, [], K, _, _, _ => by simp [lenG]
theorem lenK_eq {α : Type} (l : List α) (K : Nat → Prop) : lenK l K = K (llen l) := by
  refine lenG_eq l l lits K 0 (fun i n hi => ?_) (by simp)
  have hl : lits = List.range 48 := by decide
  rw [hl] at hi
  have hlt := (List.getElem?_eq_some_iff.1 hi)
  obtain ⟨h1, h2⟩ := hlt
  simp at h2
  omega
def vPick (c x y : SV) (K : SV → Prop) : Prop :=
  match c with
  | .v (.bool t) => Cnd t (force x K) (force y K)
  | _ => False
def vBox (e : TypeId) (x : SV) (hp : List Ent) (K : SV → List Ent → Prop) : Prop :=
  flat x fun l => match oneL l with
  | true => epush (.cells e l) hp fun hp' => lenK hp fun nn => K (.ptr nn 0 0 0) hp'
  | false => False
def vBslice0 (e : TypeId) (ck : List CK) (n : Nat) (l : List SV) (hp : List Ent) (K : SV → List Ent → Prop) : Prop :=
  match ck with
  | [] => False
  | _ :: _ => match plainL l with
    | true => rowsOf ck n l fun rows => match Nat.beq (llen l) (n * llen ck) with
      | true => epush (.row true e ck rows) hp fun hp' => lenK hp fun nn => lenK ck fun ww => K (.slc nn ww 0 n) hp'
      | false => False
    | false => match oneL l with
      | true => epush (.cells e l) hp fun hp' => lenK hp fun nn => lenK ck fun ww => K (.slc nn ww 0 n) hp'
      | false => False
def vBslice (e : TypeId) (ck : List CK) (n : Nat) (l : List SV) (hp : List Ent) (M : HL) (K : SV → List Ent → HL → Prop) : Prop :=
  match hasRef l, oneL l with
  | true, true => frzL l hp M fun l' hp' M' => vBslice0 e ck n l' hp' fun v hp2 => K v hp2 M'
  | _, _ => vBslice0 e ck n l hp fun v hp2 => K v hp2 M
def vNil (x : SV) (K : SV → Prop) : Prop :=
  match x with
  | .ptr n w i f => K (.ptr n w i f)
  | .rpt y w i f => K (.rpt y w i f)
  | .v (.pointer (some a)) => K (.v (.pointer (some a)))
  | _ => False
def vConv (k : IntKind) (x : SV) (K : SV → Prop) : Prop :=
  match x with
  | .v (.int _ n) => K (.v (.int k (k.wrap n)))
  | _ => False
def vInt (x : SV) (K : Int → Prop) : Prop :=
  match x with
  | .v (.int _ n) => K n
  | _ => False
/-- One of two ways, as the prover chooses. -/
inductive Alt (A B : Prop) : Prop where
  | std (a : A)
  | exact (b : B)
def vMslice (e : TypeId) (ck : List CK) (z : List Value) (bytes : Nat) (l c : SV) (hp : List Ent) (K : SV → List Ent → Prop) : Prop :=
  match ck with
  | [] => False
  | _ :: _ => vInt l fun n => vInt c fun m => 0 ≤ n ∧ n ≤ m ∧ (bytes : Int) * m ≤ 281474976710656 ∧ m ≤ 9223372036854775807 ∧
      Alt (epush (.row true e ck (List.replicate n.toNat z)) hp fun hp' => lenK hp fun nn => lenK ck fun ww => K (.slc nn ww 0 n.toNat) hp')
        (epush (.row true e ck (List.replicate n.toNat z)) hp fun hp' => lenK hp fun nn => lenK ck fun ww => K (.slx nn ww n.toNat m.toNat) hp')
/-- A part of a slice. -/
def subY (y : Value) (w l h : Nat) : Value :=
  match y with
  | .slice a _ c => .slice (if c = l then a else a.map (·.add (l * w))) (h - l) (c - l)
  | y => y
/-- 'x[lo:hi]' within the length; or 'x[:0:0]'. -/
def vSlice (tm : List SV) (w : Nat) (x : SV) (lo hi mx : Option PArg) (K : SV → Prop) : Prop :=
  match isO mx with
  | false => match isNilS x with
    | true => vBound tm lo 0 fun l => vBound tm hi 0 fun h => 0 ≤ l ∧ l ≤ h ∧ h ≤ 0 ∧ K .emp
    | false => match x with
      | .slc n w' i len => match Nat.beq w w' with
        | true => vBound tm lo 0 fun l => vBound tm hi len fun h => 0 ≤ l ∧ l ≤ h ∧ h ≤ (len : Int) ∧ K (.slc n w (i + l.toNat) (h.toNat - l.toNat))
        | false => False
      | .rsl y => vBound tm lo 0 fun l => vBound tm hi (slen y) fun h => 0 ≤ l ∧ l ≤ h ∧ h ≤ (slen y : Int) ∧ K (.rsl (subY y w l.toNat h.toNat))
      | _ => False
  | true => match x with
    | .slc _ _ _ _ => match isO lo, isI0 (match hi with | some p => ev tm p | none => .any), isI0 (match mx with | some p => ev tm p | none => .any) with
      | false, true, true => K .emp
      | _, _, _ => False
    | _ => False
def vFld (off : Nat) (x : SV) (K : SV → Prop) : Prop :=
  match x with
  | .ptr n w i f => K (.ptr n w i (f + off))
  | .rpt y w i f => K (.rpt y w i (f + off))
  | _ => False
def vPart (off : Nat) (s : Option Nat) (x : SV) (K : SV → Prop) : Prop :=
  match x with
  | .agg l => match s with
    | none => match dropN l off with | y :: _ => K y | [] => False
    | some m => takeN (dropN l off) m fun l' => K (.agg l')
  | _ => False
def isCells : Ent → Bool
  | .cells .. => true
  | .rcells .. => true
  | _ => false
def vIdx (w : Nat) (x i : SV) (hp : List Ent) (K : SV → Prop) : Prop :=
  match x with
  | .slc n w' j len => vInt i fun k => match Nat.beq w w' with
    | true => 0 ≤ k ∧ k < (len : Int) ∧ match isCells (eget hp n) with
      | true => K (.ptr n 0 0 ((j + k.toNat) * w))
      | false => K (.ptr n w (j + k.toNat) 0)
    | false => False
  | .rsl y => vInt i fun k => 0 ≤ k ∧ k < (slen y : Int) ∧ K (.rpt y w k.toNat 0)
  | _ => False
/-- An element of an array behind a pointer; the prover says which. -/
def vIdxa (len w : Nat) (x i : SV) (K : SV → Prop) : Prop :=
  match x with
  | .ptr n wd j f => vInt i fun k => ∃ m : Nat, k = (m : Int) ∧ m < len ∧ K (.ptr n wd j (f + m * w))
  | _ => False
/-- An element of an array's value. -/
def vIxv (len : Nat) (x i : SV) (K : SV → Prop) : Prop :=
  match x with
  | .agg l => vInt i fun k => ∃ m : Nat, k = (m : Int) ∧ m < len ∧ match dropN l m with | y :: _ => K y | [] => False
  | _ => False
def vExt (x : SV) (i : Nat) (K : SV → Prop) : Prop :=
  match x with
  | .tup l => match dropN l i with | y :: _ => K y | [] => False
  | _ => False
def vLen (x : SV) (K : SV → Prop) : Prop :=
  match isNilS x with
  | true => K (.v (.int .i64 0))
  | false => match x with
    | .slc _ _ _ n => K (.v (.int .i64 (n : Int)))
    | .rsl y => K (.v (.int .i64 (slen y : Nat)))
    | .slx _ _ n _ => K (.v (.int .i64 (n : Int)))
    | _ => False
def vAppend (e : TypeId) (ck : List CK) (bytes : Nat) (s x : SV) (hp : List Ent) (M : HL) (K : SV → List Ent → Prop) : Prop :=
  match ck with
  | [] => False
  | _ :: _ => vRows x ck hp M fun n news => match isNilS s with
    | true => n * bytes ≤ 140737488355328 ∧ epush (.row true e ck news) hp fun hp' => lenK hp fun nn => lenK ck fun ww => K (.slc nn ww 0 n) hp'
    | false => match s with
      | .slc a w i len => match eget hp a with
        | .row true e' ck' rows => match Nat.beq e e', decide (ck' = ck), Nat.beq w (llen ck) with
          | true, true, true => (len + n) * bytes ≤ 140737488355328 ∧ i + len ≤ rows.length ∧
              eset .gone hp a fun hp1 => epush (.row true e ck ((rows.drop i).take len ++ news)) hp1 fun hp' => lenK hp fun nn => lenK ck fun ww => K (.slc nn ww 0 (len + n)) hp'
          | _, _, _ => False
        | _ => False
      | .slx a w len c => match eget hp a with
        | .row true e' ck' rows => match Nat.beq e e', decide (ck' = ck), Nat.beq w (llen ck) with
          | true, true, true => len + n ≤ c ∧ len ≤ rows.length ∧
              eset .gone hp a fun hp1 => epush (.row true e ck (rows.take len ++ news)) hp1 fun hp' => lenK hp fun nn => lenK ck fun ww => K (.slx nn ww (len + n) c) hp'
          | _, _, _ => False
        | _ => False
      | .rsl y => ∃ rows, RowsIn M e ck y rows ∧ scap y = rows.length ∧ 0 < n ∧ (rows.length + n) * bytes ≤ 140737488355328 ∧
          epush (.row true e ck (rows ++ news)) hp fun hp' => lenK hp fun nn => lenK ck fun ww => K (.slc nn ww 0 (rows.length + n)) hp'
      | _ => False
/-- So many zero elements behind nothing. -/
def vAppz (e : TypeId) (ck : List CK) (z : List Value) (bytes : Nat) (s n : SV) (hp : List Ent) (K : SV → List Ent → Prop) : Prop :=
  match ck with
  | [] => False
  | _ :: _ => match isNilS s with
    | true => vInt n fun m => 0 < m ∧ m * (bytes : Int) ≤ 140737488355328 ∧ epush (.row true e ck (List.replicate m.toNat z)) hp fun hp' => lenK hp fun nn => lenK ck fun ww => K (.slc nn ww 0 m.toNat) hp'
    | false => False
def vCap (x : SV) (K : SV → Prop) : Prop :=
  match isNilS x with
  | true => K (.v (.int .i64 0))
  | false => False
/-- The elements of a slice are made zero. -/
def vClr (e : TypeId) (ck : List CK) (z : List Value) (x : SV) (hp : List Ent) (K : SV → List Ent → Prop) : Prop :=
  match isNilS x with
  | true => K (.tup []) hp
  | false => match x with
    | .slc n w i len => match eget hp n with
      | .row true e' ck' rows => match Nat.beq e e', decide (ck' = ck), Nat.beq w (llen ck) with
        | true, true, true => i + len ≤ rows.length ∧ eset (.row true e' ck' (rows.take i ++ List.replicate len z ++ rows.drop (i + len))) hp n fun hp' => K (.tup []) hp'
        | _, _, _ => False
      | _ => False
    | _ => False
def vMinmax (mx : Bool) (l : List SV) (K : SV → Prop) : Prop :=
  match l with
  | .v (.int k a) :: r => vFold mx k r a K
  | _ => False
def vTassert (a : TypeId) (ok : Bool) (z : SV) (x : SV) (K : SV → Prop) : Prop :=
  match x with
  | .ifc t y => match Nat.beq t a, ok with
    | true, true => K (.tup [y, .v (.bool true)])
    | true, false => K y
    | false, true => K (.tup [z, .v (.bool false)])
    | false, false => False
  | .v (.iface t y) => match Nat.beq t a, ok with
    | true, true => K (.tup [.v y, .v (.bool true)])
    | true, false => K (.v y)
    | false, true => K (.tup [z, .v (.bool false)])
    | false, false => False
  | .v .nilIface => match ok with
    | true => K (.tup [z, .v (.bool false)])
    | false => False
  | _ => False
def vCall (Γ : Nat → Option Trans) (f : Nat) (args : List SV) (hp : List Ent) (M : HL) (K : SV → List Ent → HL → Prop) : Prop :=
  match Γ f with
  | some T => T args hp M K
  | none => False
def vCallv (Γ : Nat → Option Trans) (g : SV) (args : List SV) (hp : List Ent) (M : HL) (K : SV → List Ent → HL → Prop) : Prop :=
  match g with
  | .fn (.func f) first caps => vCall Γ f (first ++ args ++ caps) hp M K
  | _ => False
def isC : PArg → Bool
  | .c _ => true
  | _ => false

def vcOp (Γ : Nat → Option Trans) (o : POp) (tm : List SV) (hp : List Ent) (M : HL) (K : SV → List Ent → HL → Prop) : Prop :=
  match o with
  | .mov x => force (ev tm x) fun v => K v hp M
  | .pick c a b => vPick (ev tm c) (ev tm a) (ev tm b) fun v => K v hp M
  | .box e x => vBox e (ev tm x) hp fun v hp' => K v hp' M
  | .build z ps => vParts tm ps z fun l => K (.agg l) hp M
  | .bslice e ck n z ps => vParts tm ps z fun l => vBslice e ck n l hp M fun v hp' M' => K v hp' M'
  | .load s a => vLoad s (ev tm a) hp M fun v => K v hp M
  | .store m a x => vStore m (ev tm a) (ev tm x) hp M fun hp' M' => K (.v undef) hp' M'
  | .nilck x => vNil (ev tm x) fun v => K v hp M
  | .bin op x y => vBin op (ev tm x) (ev tm y) fun v => K v hp M
  | .eqp k c ne x y => vEq k c (ev tm x) (ev tm y) fun b => K (.v (.bool (match ne with | true => !b | false => b))) hp M
  | .eqb ne x y => vEqb ne (ev tm x) (ev tm y) fun v => K v hp M
  | .un op x => vUn op (ev tm x) fun v => K v hp M
  | .conv k x => vConv k (ev tm x) fun v => K v hp M
  | .iface t x => force (ev tm x) fun v => K (.ifc t v) hp M
  | .clo f a b => evK tm a fun a => evK tm b fun b => K (.fn f a b) hp M
  | .mslice e ck z bytes l c => vMslice e ck z bytes (ev tm l) (ev tm c) hp fun v hp' => K v hp' M
  | .slice w x lo hi mx => vSlice tm w (ev tm x) lo hi mx fun v => K v hp M
  | .fld off x => vFld off (ev tm x) fun v => K v hp M
  | .part off s x => vPart off s (ev tm x) fun v => K v hp M
  | .idx w x i => vIdx w (ev tm x) (ev tm i) hp fun v => K v hp M
  | .idxa n w x i => vIdxa n w (ev tm x) (ev tm i) fun v => K v hp M
  | .ixv n x i => vIxv n (ev tm x) (ev tm i) fun v => K v hp M
  | .ext x i => vExt (ev tm x) i fun v => force v fun v => K v hp M
  | .call f args => evK tm args fun l => vCall Γ f l hp M K
  | .callv g args => evK tm args fun l => vCallv Γ (ev tm g) l hp M K
  | .len x => vLen (ev tm x) fun v => K v hp M
  | .append e ck _ bytes s x => vAppend e ck bytes (ev tm s) (ev tm x) hp M fun v hp' => K v hp' M
  | .appendz e ck z bytes s x => vAppz e ck z bytes (ev tm s) (ev tm x) hp fun v hp' => K v hp' M
  | .cap x => vCap (ev tm x) fun v => K v hp M
  | .minmax mx xs => vMinmax mx (evL tm xs) fun v => K v hp M
  | .clr e ck z x => vClr e ck z (ev tm x) hp fun v hp' => K v hp' M
  | .tassert a ok z x => vTassert a ok z (ev tm x) fun v => K v hp M
  | _ => False

/-- What one operation of the machine may be asked to show. -/
def OpWp (P : Program) (o : Oper) (a : Act) (w : World) (R : Value → World → Prop) : Prop :=
  ∀ (K : Act → World → Prop) (Q : Exit → Act → World → Prop), (∀ v w', R v w' → K (a.put o.dst v) w') → o.wp P a w K Q

theorem OpWp.of_value {P : Program} {o : Oper} {a : Act} {w w' : World} {v : Value} {R : Value → World → Prop} (h : (execOp a.eval o).run P w = .ok (.value v) w') (hr : R v w') : OpWp P o a w R := fun K Q hk => by
  unfold Oper.wp
  rw [h]
  exact hk _ _ hr
theorem OpWp.of_skip {P : Program} {o : Oper} {a : Act} {w w' : World} {R : Value → World → Prop} (h : (execOp a.eval o).run P w = .ok .skip w') (hr : R undef w') : OpWp P o a w R := fun K Q hk => by
  unfold Oper.wp
  rw [h]
  exact hk _ _ hr
theorem OpWp.of_enter {P : Program} {o : Oper} {a : Act} {w w' : World} {f : FuncId} {args : Array Value} {R : Value → World → Prop} (h : (execOp a.eval o).run P w = .ok (.enter f args) w')
    (hr : Calls P f args w' fun e w'' => ∃ v, e = .returned v ∧ R v w'') : OpWp P o a w R := fun K Q hk => by
  unfold Oper.wp
  rw [h]
  refine hr.mono fun e w'' ⟨v, he, hv⟩ => ?_
  subst he
  exact hk _ _ hv

theorem Post.same {K : SV → List Ent → HL → Prop} {ρ : Nat → Loc} {hp : List Ent} {M F : HL} {w : World} (H : Holds ρ hp M F w) {sv : SV} {v : Value} (h : K sv hp M) (hd : Den ρ sv v) : Post K hp.length ρ M F w v w :=
  ⟨sv, ρ, hp, M, F, h, Nat.le_refl _, Ext.refl _ _, H, Gr.refl M F, Same.refl w, hd⟩

/-- An operation that looks at no memory. -/
def POk (P : Program) (o : Oper) (a : Act) (ρ : Nat → Loc) (Kv : SV → Prop) : Prop :=
  ∃ v sv, (∀ w, (execOp a.eval o).run P w = .ok (.value v) w) ∧ Kv sv ∧ Den ρ sv v
theorem POk.mk' {P : Program} {o : Oper} {a : Act} {ρ : Nat → Loc} {Kv : SV → Prop} {v : Value} {sv : SV} (h1 : ∀ w, (execOp a.eval o).run P w = .ok (.value v) w) (h2 : Kv sv) (h3 : Den ρ sv v) : POk P o a ρ Kv := ⟨v, sv, h1, h2, h3⟩
theorem POk.op {P : Program} {o : Oper} {a : Act} {ρ : Nat → Loc} {K : SV → List Ent → HL → Prop} {hp : List Ent} {M F : HL} {w : World} (h : POk P o a ρ fun v => K v hp M) (H : Holds ρ hp M F w) : OpWp P o a w (Post K hp.length ρ M F w) := by
  obtain ⟨v, sv, h1, h2, h3⟩ := h
  exact .of_value (h1 w) (.same H h2 h3)

def grow (ρ : Nat → Loc) (k : Nat) (l : Loc) : Nat → Loc := fun n => if n = k then l else ρ n
theorem grow_self (ρ : Nat → Loc) (k : Nat) (l : Loc) : grow ρ k l k = l := by simp [grow]
theorem grow_ne (ρ : Nat → Loc) {k n : Nat} (l : Loc) (h : n ≠ k) : grow ρ k l n = ρ n := by simp [grow, h]
theorem grow_ext (ρ : Nat → Loc) (k : Nat) (l : Loc) : Ext k ρ (grow ρ k l) := fun n hn => grow_ne ρ l (by omega)

/-- A new block under a new name. -/
theorem Holds.alloc {ρ : Nat → Loc} {hp : List Ent} {M F : HL} {w w' : World} (H : Holds ρ hp M F w) {o : Obj} (hh : w'.heap = w.heap.push o) {e : Ent} {base cap : Nat}
    (hE : EntOK (grow ρ hp.length (some (w.heap.size, base, cap))) M w' hp.length e) : Holds (grow ρ hp.length (some (w.heap.size, base, cap))) (hp ++ [e]) M F w' := by
  have hold : ∀ k, k < w.heap.size → w'.heap[k]? = w.heap[k]? := fun k hk => by rw [hh, Array.getElem?_push, if_neg (by omega)]
  have hFs : ∀ k o', F k = some o' → k < w.heap.size := fun k o' hk => (Array.getElem?_eq_some_iff.1 (H.frm k o' hk)).1
  have hcase : ∀ m c, owns (grow ρ hp.length (some (w.heap.size, base, cap))) (hp ++ [e]) m c → (m = hp.length ∧ c = w.heap.size) ∨ (m < hp.length ∧ owns ρ hp m c) := by
    rintro m c ⟨e1, ba, ca, h1, h2, h3⟩
    by_cases hm : m = hp.length
    · subst hm
      rw [grow_self] at h3
      cases h3
      exact .inl ⟨rfl, rfl⟩
    · have hm' : m < hp.length := by
        have := (List.getElem?_eq_some_iff.1 h1).1
        simp at this; omega
      rw [grow_ne _ _ hm] at h3
      rw [List.getElem?_append_left hm'] at h1
      exact .inr ⟨hm', e1, ba, ca, h1, h2, h3⟩
  refine ⟨fun m e1 h1 => ?_, fun m k c h1 h2 => ?_, fun m c h1 => ?_, fun k o' hk => ?_, H.sub, fun m hm => ?_⟩
  · by_cases hm : m = hp.length
    · subst hm
      rw [List.getElem?_append_right (Nat.le_refl _)] at h1
      simp at h1
      subst h1
      exact hE
    · have hm' : m < hp.length := by
        have := (List.getElem?_eq_some_iff.1 h1).1
        simp at this; omega
      rw [List.getElem?_append_left hm'] at h1
      refine (H.ent m e1 h1).keep (H.le (grow_ext _ _ _)) (grow_ne _ _ hm) (FLe.refl M) fun c ba ca h2 h3 => ?_
      exact hold c (owns_lt H ⟨e1, ba, ca, h1, h2, h3⟩)
  · rcases hcase m c h1 with ⟨hm, hc⟩ | ⟨hm, h1⟩ <;> rcases hcase k c h2 with ⟨hk, hc'⟩ | ⟨hk, h2⟩
    · exact hm.trans hk.symm
    · have := owns_lt H h2; omega
    · have := owns_lt H h1; omega
    · exact H.sep m k c h1 h2
  · rcases hcase m c h1 with ⟨rfl, rfl⟩ | ⟨hm, h1⟩
    · cases hf : F w.heap.size with
      | none => rfl
      | some o' => have := hFs _ _ hf; omega
    · exact H.out m c h1
  · rw [hold k (hFs k o' hk)]
    exact H.frm k o' hk
  · rw [grow_ne _ _ (by simp at hm; omega)]
    exact H.dom m (by simp at hm; omega)

/-- A new name for no block: an empty row. -/
theorem Holds.nilRow {ρ : Nat → Loc} {hp : List Ent} {M F : HL} {w : World} (H : Holds ρ hp M F w) (own : Bool) (e : TypeId) (ck : List CK) (hc : 0 < ck.length) : Holds ρ (hp ++ [.row own e ck []]) M F w := by
  have hcase : ∀ m c, owns ρ (hp ++ [.row own e ck []]) m c → owns ρ hp m c := by
    rintro m c ⟨e1, ba, ca, h1, h2, h3⟩
    by_cases hm : m < hp.length
    · rw [List.getElem?_append_left hm] at h1
      exact ⟨e1, ba, ca, h1, h2, h3⟩
    · rw [H.dom m (by omega)] at h3; cases h3
  refine ⟨fun m e1 h1 => ?_, fun m k c h1 h2 => H.sep m k c (hcase _ _ h1) (hcase _ _ h2), fun m c h1 => H.out m c (hcase _ _ h1), H.frm, H.sub, fun m hm => H.dom m (by simp at hm; omega)⟩
  by_cases hm : m < hp.length
  · rw [List.getElem?_append_left hm] at h1
    exact H.ent m e1 h1
  · have hm' : m = hp.length := by
      have := (List.getElem?_eq_some_iff.1 h1).1
      simp at this; omega
    subst hm'
    rw [List.getElem?_append_right (Nat.le_refl _)] at h1
    simp at h1
    subst h1
    simp only [EntOK, H.dom hp.length (Nat.le_refl _)]
    exact ⟨hc, trivial⟩
end Go.Vc
