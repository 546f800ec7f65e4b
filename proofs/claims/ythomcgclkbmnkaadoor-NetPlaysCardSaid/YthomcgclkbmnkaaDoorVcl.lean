/-
  Symbolic execution, part L: code ('vc'): branches, blocks, loops with an invariant.
-/
import Derived.Test.YthomcgclkbmnkaaDoorVcp
namespace Go.Vc

def putS (d : Option Nat) (v : SV) (tm : List SV) (K : List SV → Prop) : Prop :=
  match d with
  | some d => sset v tm d K
  | none => K tm
theorem putS_den {ρ : Nat → Loc} {d : Option Nat} {v : SV} {tm : List SV} {K : List SV → Prop} (h : putS d v tm K) {a : Act} {y : Value} (hD : DenL ρ tm a.tmps.toList) (hv : Den ρ v y) : ∃ tm', K tm' ∧ DenL ρ tm' (a.put d y).tmps.toList := by
  cases d with
  | none => exact ⟨tm, h, hD⟩
  | some d =>
    simp only [putS] at h
    rw [sset_iff] at h
    exact ⟨_, h, by simpa [Act.put] using hD.set hv d⟩

/-- An operation's guard: what the slot holds is made known on each way. -/
def gate (g : Option (Nat × Bool)) (tm : List SV) (A B : List SV → Prop) : Prop :=
  match g with
  | none => A tm
  | some (t, want) => match sget tm t with
    | .v (.bool b) => match want with
      | true => Cnd b (sset (.v (.bool true)) tm t A) (sset (.v (.bool false)) tm t B)
      | false => Cnd b (sset (.v (.bool true)) tm t B) (sset (.v (.bool false)) tm t A)
    | .v (.tuple _) => B tm
    | _ => False

abbrev OK := List SV → List Ent → HL → Prop
def opsNil : List SV → List Ent → HL → OK → Prop := fun tm hp M K => K tm hp M
def opsCons (Γ : Nat → Option Trans) (o : PO) (_ : List PO) (ih : List SV → List Ent → HL → OK → Prop) : List SV → List Ent → HL → OK → Prop := fun tm hp M K =>
  gate o.guard tm
    (fun tm => vcOp Γ o.op tm hp M fun v hp' M' => putS o.dst v tm fun tm' => ih tm' hp' M' K)
    (fun tm => putS o.dst (.v undef) tm fun tm' => ih tm' hp M K)
/-- (By the recursor: so that the kernel reduces it as the elaborator does.) -/
noncomputable def vcOps (Γ : Nat → Option Trans) (l : List PO) : List SV → List Ent → HL → OK → Prop :=
  List.rec (motive := fun _ => List SV → List Ent → HL → OK → Prop) opsNil (opsCons Γ) l

/-! ### Regions whose order is drawn -/
inductive Mk where
  | live (deps : List Nat) (s : Option Nat) (ad v : SV)
  | dead (deps : List Nat)
def memN (i : Nat) : List Nat → Bool
  | [] => false
  | j :: r => match Nat.beq i j with
    | true => true
    | false => memN i r
def vMarks (i : Nat) (hp : List Ent) (M : HL) : List Mk → (List Mk → Prop) → Prop
  | [], K => K []
  | .live d s ad v :: r, K => match memN i d with
    | true => vMarks i hp M r fun l => K (.dead d :: l)
    | false => vLoad s ad hp M fun v' => rig v v' (vMarks i hp M r fun l => K (.live d s ad v :: l))
  | .dead d :: r, K => vMarks i hp M r fun l => K (.dead d :: l)
def getO : List PO → Nat → Option PO
  | [], _ => none
  | o :: _, 0 => some o
  | _ :: r, n + 1 => getO r n
abbrev DRun := List Mk → List SV → List Ent → HL → OK → Prop
def dDone : DRun := fun _ tm hp M K => K tm hp M
/-- Neither a load nor pure: it may change the world. -/
def isE (o : POp) : Bool := match o with
  | .load .. => false
  | op => !pureO op
def dTake (Γ : Nat → Option Trans) (ops : List PO) (i : Nat) (deps : List Nat) (_ : DT) (ih : DRun) : DRun := fun marks tm hp M K =>
  match getO ops i with
  | none => False
  | some o => match isE o.op with
   | true => False
   | false => gate o.guard tm
    (fun tm => match o.op with
      | .load s x => force (ev tm x) fun ad => vLoad s ad hp M fun v => putS o.dst v tm fun tm' => ih (.live deps s ad v :: marks) tm' hp M K
      | op => match pureO op with
        | true => vcOp Γ op tm hp M fun v _ _ => putS o.dst v tm fun tm' => ih marks tm' hp M K
        | false => False)
    (fun tm => putS o.dst (.v undef) tm fun tm' => ih marks tm' hp M K)
def isBs : POp → Bool
  | .bslice .. => true
  | _ => false
def dEff (Γ : Nat → Option Trans) (ops : List PO) (q : Bool) (i : Nat) (_ : DT) (ih : DRun) : DRun := fun marks tm hp M K =>
  match getO ops i with
  | none => False
  | some o => gate o.guard tm
    (fun tm => match o.op with
      | .load s x => force (ev tm x) fun ad => vLoad s ad hp M fun v => putS o.dst v tm fun tm' => ih marks tm' hp M K
      | op => match pureO op with
        | true => vcOp Γ op tm hp M fun v _ _ => putS o.dst v tm fun tm' => ih marks tm' hp M K
        | false => match q with
          | true => match isBs op with
            | true => vcOp Γ op tm hp M fun v hp' M' => putS o.dst v tm fun tm' => ih marks tm' hp' M' K
            | false => vQuiet (fun hp M K => vcOp Γ op tm hp M K) hp M fun v hp' M' => putS o.dst v tm fun tm' => ih marks tm' hp' M' K
          | false => vcOp Γ op tm hp M fun v hp' M' => vMarks i hp' M' marks fun marks' => putS o.dst v tm fun tm' => ih marks' tm' hp' M' K)
    (fun tm => putS o.dst (.v undef) tm fun tm' => ih marks tm' hp M K)
def dBoth (_ _ : DT) (ia ib : DRun) : DRun := fun marks tm hp M K => ia marks tm hp M K ∧ ib marks tm hp M K
noncomputable def vDT (Γ : Nat → Option Trans) (ops : List PO) (d : DT) : DRun :=
  DT.rec (motive := fun _ => DRun) dDone (dTake Γ ops) (dEff Γ ops) dBoth d

inductive Ex where
  | normal | exit (id : Nat) | ret

/-! ### Weakening: other names, forgotten slots -/
def nget : List Nat → Nat → Nat
  | [], _ => 0
  | s :: _, 0 => s
  | _ :: r, n + 1 => nget r n
def vEqV (x y : Value) (K : Prop) : Prop :=
  match x, y with
  | .int k a, .int k' b => match kEq k k' with
    | true => a = b ∧ K
    | false => False
  | .bool a, .bool b => a = b ∧ K
  | x, y => x = y ∧ K
mutual
/-- What the slot 's' holds is of the form 's'' (names by 'm': new to old). -/
def sle (m : List Nat) : SV → SV → Prop → Prop
  | _, .any, K => K
  | s, .v y, K => match s with
    | .v x => vEqV x y K
    | _ => False
  | s, .ptr n' w' i' f', K => match s with
    | .ptr n w i f => match Nat.beq (nget m n') n, Nat.blt n' (llen m), Nat.beq w w', Nat.beq f f' with
      | true, true, true, true => i = i' ∧ K
      | _, _, _, _ => False
    | _ => False
  | s, .slc n' w' i' len', K => match isNilS s with
    | true => len' = 0 ∧ K
    | false => match s with
      | .slc n w i len => match Nat.beq (nget m n') n, Nat.blt n' (llen m), Nat.beq w w' with
        | true, true, true => i = i' ∧ len = len' ∧ K
        | _, _, _ => False
      | _ => False
  | s, .emp, K => match isNilS s with
    | true => K
    | false => False
  | s, .agg l', K => match s with
    | .agg l => sleL m l l' K
    | _ => False
  | s, .tup l', K => match s with
    | .tup l => sleL m l l' K
    | _ => False
  | s, .fn f' a' b', K => match s with
    | .fn f a b => f = f' ∧ sleL m a a' (sleL m b b' K)
    | _ => False
  | s, .ifc t' x', K => match s with
    | .ifc t x => match Nat.beq t t' with
      | true => sle m x x' K
      | false => False
    | _ => False
  | s, .rsl y', K => match s with
    | .rsl y => y = y' ∧ K
    | _ => False
  | s, .slx n' w' len' c', K => match s with
    | .slx n w len c => match Nat.beq (nget m n') n, Nat.blt n' (llen m), Nat.beq w w' with
      | true, true, true => len = len' ∧ c = c' ∧ K
      | _, _, _ => False
    | _ => False
  | s, .rpt y' w' i' f', K => match s with
    | .rpt y w i f => match Nat.beq w w', Nat.beq f f' with
      | true, true => y = y' ∧ i = i' ∧ K
      | _, _ => False
    | _ => False
def sleL (m : List Nat) : List SV → List SV → Prop → Prop
  | l, [], K => match l with
    | [] => K
    | _ :: _ => False
  | l, s' :: r', K => match l with
    | s :: r => sle m s s' (sleL m r r' K)
    | [] => False
end
def ckEq : CK → CK → Bool
  | .int k, .int k' => kEq k k'
  | .bool, .bool => true
  | .raw, .raw => true
  | .sl, .sl => true
  | _, _ => false
def ckEqL : List CK → List CK → Bool
  | [], [] => true
  | a :: l, b :: r => match ckEq a b with | true => ckEqL l r | false => false
  | _, _ => false
def bEq : Bool → Bool → Bool
  | true, true => true
  | false, false => true
  | _, _ => false
def ele (m : List Nat) (fresh : Bool) (e e' : Ent) (K : Prop) : Prop :=
  match e' with
  | .gone => K
  | .cells t' vs' => match e with
    | .cells t vs => match Nat.beq t t' with
      | true => sleL m vs vs' K
      | false => False
    | _ => False
  | .rcells t' vs' => match e with
    | .rcells t vs => match Nat.beq t t' with
      | true => sleL m vs vs' K
      | false => False
    | _ => False
  | .row o' t' ck' rows' => match fresh with
    | true => match ck' with
      | [] => False
      | _ :: _ => rows' = [] ∧ K
    | false => match e with
      | .row o t ck rows => match ckEqL ck ck' with
        | true => o = o' ∧ t = t' ∧ rows = rows' ∧ K
        | false => False
      | _ => False
/-- Each entry, by its old name. -/
def eleL (m : List Nat) (hp : List Ent) : List Nat → List Ent → Prop → Prop
  | [], [], K => K
  | o :: ms, e' :: r, K => ele m (Nat.ble (llen hp) o) (eget hp o) e' (eleL m hp ms r K)
  | _, _, _ => False
def notin (n x : Nat) : List Nat → Bool
  | [] => true
  | y :: r => match Nat.beq x y, Nat.blt x n with
    | true, true => false
    | _, _ => notin n x r
/-- No old name twice (but those that stand for none). -/
def nodupB (n : Nat) : List Nat → Bool
  | [] => true
  | x :: r => match notin n x r with
    | true => nodupB n r
    | false => false
/-- The first k names are kept. -/
def idUpto : (k j : Nat) → List Nat → Bool
  | 0, _, _ => true
  | k + 1, j, x :: r => match Nat.beq x j with
    | true => idUpto k (j + 1) r
    | false => false
  | _ + 1, _, [] => false
def Wk (k0 : Nat) (m : List Nat) (tm : List SV) (hp : List Ent) (tm' : List SV) (hp' : List Ent) (K : Prop) : Prop :=
  match nodupB (llen hp) m, idUpto k0 0 m with
  | true, true => sleL m tm tm' (eleL m hp m hp' K)
  | _, _ => False

abbrev CK' := Ex → List SV → List Ent → HL → Prop
abbrev Run := List SV → List Ent → HL → CK' → Prop
def vSkip : Run := fun tm hp M K => K .normal tm hp M
def vRet : Run := fun tm hp M K => K .ret tm hp M
noncomputable def vReg (Γ : Nat → Option Trans) (draw : Bool) (l : List PO) (dt : DT) : Run := fun tm hp M K =>
  match draw with
  | false => vcOps Γ l tm hp M (K .normal)
  | true => vDT Γ l dt [] tm hp M (K .normal)
def vSeq (_ _ : PCode) (ia ib : Run) : Run := fun tm hp M K => ia tm hp M fun e tm' hp' M' => match e with
  | .normal => ib tm' hp' M' K
  | .exit id => K (.exit id) tm' hp' M'
  | .ret => K .ret tm' hp' M'
def vCond (c : PArg) (_ _ : PCode) (ia ib : Run) : Run := fun tm hp M K => match ev tm c with
  | .v (.bool t) => Cnd t (ia tm hp M K) (ib tm hp M K)
  | _ => False
def vBlock (id : Nat) (_ : PCode) (ic : Run) : Run := fun tm hp M K => ic tm hp M fun e tm' hp' M' => match e with
  | .normal => K .normal tm' hp' M'
  | .exit j => match Nat.beq j id with
    | true => K .normal tm' hp' M'
    | false => K (.exit j) tm' hp' M'
  | .ret => K .ret tm' hp' M'
def vLoop (k0 : Nat) (_ : PCode) (ic : Run) : Run := fun tm hp M K => ∃ I : Nat → List SV → List Ent → HL → Prop,
  (∃ n m tm' hp', Wk k0 m tm hp tm' hp' (I n tm' hp' M)) ∧
  ∀ n tm1 hp1 M1, I n tm1 hp1 M1 → ic tm1 hp1 M1 fun e tm2 hp2 M2 => match e with
    | .normal => ∃ n' m tm3 hp3, n' < n ∧ Wk k0 m tm2 hp2 tm3 hp3 (I n' tm3 hp3 M2)
    | .exit id => K (.exit id) tm2 hp2 M2
    | .ret => K .ret tm2 hp2 M2
/-- The ways through a piece of code meet again behind it. -/
def vCut (k0 : Nat) (_ : PCode) (ic : Run) : Run := fun tm hp M K => ∃ I : List SV → List Ent → HL → Prop,
  (ic tm hp M fun e tm2 hp2 M2 => match e with
    | .normal => ∃ m tm3 hp3, Wk k0 m tm2 hp2 tm3 hp3 (I tm3 hp3 M2)
    | .exit id => K (.exit id) tm2 hp2 M2
    | .ret => K .ret tm2 hp2 M2) ∧
  ∀ tm1 hp1 M1, I tm1 hp1 M1 → K .normal tm1 hp1 M1
def vExit (id : Nat) : Run := fun tm hp M K => K (.exit id) tm hp M
def lookB (g : Nat) : List (Nat × Option Nat) → Option (Option Nat)
  | [] => none
  | (j, s) :: r => match Nat.beq g j with
    | true => some s
    | false => lookB g r
/-- A range over slices.Backward of a slice that an argument reaches: the elements from the last to the first; the function's slots stay as they are. -/
def vRange (k0 : Nat) (f : PArg) (bk : List (Nat × Option Nat)) (ps : List Nat) (_ _ : PCode) (iA iB : Nat → Run) : Run := fun tm hp M K =>
  match ev tm f with
  | .fn (.func g) [] [.ptr nb 0 0 0] => match lookB g bk with
    | some sz => ∃ (I : Nat → List SV → List Ent → HL → Prop) (eb : TypeId) (n w i len : Nat) (o : Bool) (e : TypeId) (ck : List CK) (rows : List (List Value)) (p1 p2 : Nat),
      hp[nb]? = some (.cells eb [.slc n w i len]) ∧ hp[n]? = some (.row o e ck rows) ∧ n < k0 ∧ ps = [p1, p2] ∧ w = sz.getD 1 ∧ len ≤ 1000000 ∧
      (∃ m tm' hp', Wk k0 m tm (hp.set nb .gone) tm' hp' (I len tm' hp' M)) ∧
      (∀ k, k < len → ∀ tm1 hp1 M1, I (k + 1) tm1 hp1 M1 → hp1[n]? = some (.row o e ck rows) ∧
        vLoad sz (.ptr n w (i + k) 0) hp1 M1 fun x => sset (.v (.int .i64 k)) tm1 p1 fun tm2 => sset x tm2 p2 fun tm3 =>
          iA (llen hp1) tm3 hp1 M1 fun ex tm4 hp4 M4 => match ex with
            | .normal => iB (llen hp1) tm4 hp4 M4 fun ex _ hp5 M5 => match ex with
              | .normal => ∃ m tm6 hp6, Wk k0 m tm1 hp5 tm6 hp6 (I k tm6 hp6 M5)
              | .exit id => K (.exit id) tm1 hp5 M5
              | .ret => K .ret tm1 hp5 M5
            | _ => False) ∧
      ∀ tm1 hp1 M1, I 0 tm1 hp1 M1 → K .normal tm1 hp1 M1
    | none => False
  | _ => False
noncomputable def vc (Γ : Nat → Option Trans) (k0 : Nat) (c : PCode) : Run :=
  PCode.rec (motive := fun _ => Nat → Run) (fun _ => vSkip) (fun _ => vRet) (fun d l dt _ => vReg Γ d l dt) (fun a b ia ib k => vSeq a b (ia k) (ib k)) (fun c a b ia ib k => vCond c a b (ia k) (ib k))
    (fun id c ic k => vBlock id c (ic k)) (fun c ic k => vLoop k c (ic k)) (fun id _ => vExit id) (fun f bk ps a b ia ib k => vRange k f bk ps a b ia ib) (fun _ _ _ _ _ _ => False) (fun c ic k => vCut k c (ic k)) c k0
end Go.Vc
