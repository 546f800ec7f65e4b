/-
  Symbolic execution, part B: what symbolic values and heaps mean.
-/
import Derived.Test.YthomcgclkbmnkaaDoorVca
namespace Go.Vc

/-- Where a name lies: block, the row's first cell, how many elements there is room for. -/
abbrev Loc := Option (Nat × Nat × Nat)
abbrev HL := Nat → Option Obj

mutual
def Den (ρ : Nat → Loc) : SV → Value → Prop
  | .v x, y => x = y
  | .ptr n w i f, y => ∃ b base cap, ρ n = some (b, base, cap) ∧ y = .pointer (some ⟨b, base + (i * w + f), none⟩)
  | .slc n w i len, y => ∃ a c, y = .slice a len c ∧ len ≤ c ∧ (c = 0 ∨ ∃ b base cap, ρ n = some (b, base, cap) ∧ a = some ⟨b, base + i * w, none⟩ ∧ i + c ≤ cap)
  | .emp, y => ∃ a, y = .slice a 0 0
  | .agg l, y => ∃ cs : List Value, y = .agg cs.toArray ∧ DenL ρ l cs
  | .tup l, y => ∃ cs : List Value, y = .tuple cs.toArray ∧ DenL ρ l cs
  | .fn f first caps, y => ∃ a b : List Value, y = .func f a.toArray b.toArray ∧ DenL ρ first a ∧ DenL ρ caps b
  | .ifc t x, y => ∃ z, y = .iface t z ∧ Den ρ x z
  | .rsl z, y => y = z ∧ ∃ a n c, z = .slice a n c ∧ n ≤ c ∧ (a = none → n = 0)
  | .rpt z w i f, y => ∃ a n c, z = .slice (some a) n c ∧ y = .pointer (some (a.add (i * w + f)))
  | .slx n _ len c, y => ∃ b base cap, ρ n = some (b, base, cap) ∧ y = .slice (some ⟨b, base, none⟩) len c ∧ len ≤ c ∧ c ≤ cap
  | .any, _ => True
def DenL (ρ : Nat → Loc) : List SV → List Value → Prop
  | [], [] => True
  | s :: ss, v :: vs => Den ρ s v ∧ DenL ρ ss vs
  | _, _ => False
end

/-- 'ρ'' keeps the names below k. -/
def Ext (k : Nat) (ρ ρ' : Nat → Loc) : Prop := ∀ n, n < k → ρ' n = ρ n
def Le (ρ ρ' : Nat → Loc) : Prop := ∀ n x, ρ n = some x → ρ' n = some x

mutual
theorem Den.mono {ρ ρ' : Nat → Loc} (h : Le ρ ρ') : ∀ (s : SV) (y : Value), Den ρ s y → Den ρ' s y
  | .v _, _, hd => by simpa [Den] using hd
  | .ptr n w i f, y, hd => by
    simp only [Den] at hd ⊢
    obtain ⟨b, base, cap, h1, h2⟩ := hd
    exact ⟨b, base, cap, h _ _ h1, h2⟩
  | .slc n w i len, y, hd => by
    simp only [Den] at hd ⊢
    obtain ⟨a, c, h1, h2, h3⟩ := hd
    refine ⟨a, c, h1, h2, ?_⟩
    rcases h3 with h3 | ⟨b, base, cap, h4, h5⟩
    · exact .inl h3
    · exact .inr ⟨b, base, cap, h _ _ h4, h5⟩
  | .emp, _, hd => by simpa [Den] using hd
  | .agg l, y, hd => by
    simp only [Den] at hd ⊢
    obtain ⟨cs, h1, h2⟩ := hd
    exact ⟨cs, h1, DenL.mono h l cs h2⟩
  | .tup l, y, hd => by
    simp only [Den] at hd ⊢
    obtain ⟨cs, h1, h2⟩ := hd
    exact ⟨cs, h1, DenL.mono h l cs h2⟩
  | .fn f a b, y, hd => by
    simp only [Den] at hd ⊢
    obtain ⟨x, z, h1, h2, h3⟩ := hd
    exact ⟨x, z, h1, DenL.mono h a x h2, DenL.mono h b z h3⟩
  | .ifc t x, y, hd => by
    simp only [Den] at hd ⊢
    obtain ⟨z, h1, h2⟩ := hd
    exact ⟨z, h1, Den.mono h x z h2⟩
  | .rsl _, _, hd => by simpa [Den] using hd
  | .rpt .., _, hd => by simpa [Den] using hd
  | .slx n w len c, y, hd => by
    simp only [Den] at hd ⊢
    obtain ⟨b, base, cap, h1, h2⟩ := hd
    exact ⟨b, base, cap, h _ _ h1, h2⟩
  | .any, _, _ => by simp [Den]
theorem DenL.mono {ρ ρ' : Nat → Loc} (h : Le ρ ρ') : ∀ (s : List SV) (y : List Value), DenL ρ s y → DenL ρ' s y
  | [], [], _ => by simp [DenL]
  | s :: ss, v :: vs, hd => by
    simp only [DenL] at hd ⊢
    exact ⟨Den.mono h s v hd.1, DenL.mono h ss vs hd.2⟩
  | [], _ :: _, hd => by simp [DenL] at hd
  | _ :: _, [], hd => by simp [DenL] at hd
end

theorem DenL.length {ρ : Nat → Loc} : ∀ {s : List SV} {y : List Value}, DenL ρ s y → s.length = y.length
  | [], [], _ => rfl
  | _ :: ss, _ :: vs, hd => by simp only [DenL] at hd; simp [DenL.length hd.2]
  | [], _ :: _, hd => by simp [DenL] at hd
  | _ :: _, [], hd => by simp [DenL] at hd

theorem DenL.get {ρ : Nat → Loc} : ∀ {s : List SV} {y : List Value}, DenL ρ s y → ∀ {n : Nat} {x : SV}, s[n]? = some x → ∃ v, y[n]? = some v ∧ Den ρ x v
  | [], [], _, n, x, hn => by simp at hn
  | a :: ss, v :: vs, hd, 0, x, hn => by
    simp only [DenL] at hd
    simp at hn
    subst hn
    exact ⟨v, rfl, hd.1⟩
  | a :: ss, v :: vs, hd, n + 1, x, hn => by
    simp only [DenL] at hd
    simp at hn
    obtain ⟨u, h1, h2⟩ := DenL.get hd.2 hn
    exact ⟨u, by simpa using h1, h2⟩
  | [], _ :: _, hd, _, _, _ => by simp [DenL] at hd
  | _ :: _, [], hd, _, _, _ => by simp [DenL] at hd

theorem DenL.set {ρ : Nat → Loc} {x : SV} {v : Value} (hx : Den ρ x v) : ∀ {s : List SV} {y : List Value}, DenL ρ s y → ∀ n, DenL ρ (s.set n x) (y.set n v)
  | [], [], _, n => by simp [DenL]
  | a :: ss, u :: vs, hd, 0 => by simp only [DenL] at hd; simp only [List.set_cons_zero, DenL]; exact ⟨hx, hd.2⟩
  | a :: ss, u :: vs, hd, n + 1 => by simp only [DenL] at hd; simp only [List.set_cons_succ, DenL]; exact ⟨hd.1, DenL.set hx hd.2 n⟩
  | [], _ :: _, hd, _ => by simp [DenL] at hd
  | _ :: _, [], hd, _ => by simp [DenL] at hd

theorem DenL.append {ρ : Nat → Loc} : ∀ {s s' : List SV} {y y' : List Value}, DenL ρ s y → DenL ρ s' y' → DenL ρ (s ++ s') (y ++ y')
  | [], _, [], _, _, h' => by simpa using h'
  | _ :: _, _, _ :: _, _, h, h' => by simp only [DenL] at h; simp only [List.cons_append, DenL]; exact ⟨h.1, DenL.append h.2 h'⟩
  | [], _, _ :: _, _, hd, _ => by simp [DenL] at hd
  | _ :: _, _, [], _, hd, _ => by simp [DenL] at hd

theorem DenL.drop {ρ : Nat → Loc} : ∀ (n : Nat) {s : List SV} {y : List Value}, DenL ρ s y → DenL ρ (s.drop n) (y.drop n)
  | 0, _, _, h => by simpa using h
  | n + 1, [], [], _ => by simp [DenL]
  | n + 1, _ :: _, _ :: _, h => by simp only [DenL] at h; simpa using DenL.drop n h.2
  | _ + 1, [], _ :: _, hd => by simp [DenL] at hd
  | _ + 1, _ :: _, [], hd => by simp [DenL] at hd
theorem DenL.take {ρ : Nat → Loc} : ∀ (n : Nat) {s : List SV} {y : List Value}, DenL ρ s y → DenL ρ (s.take n) (y.take n)
  | 0, _, _, _ => by simp [DenL]
  | n + 1, [], [], _ => by simp [DenL]
  | n + 1, _ :: _, _ :: _, h => by simp only [DenL] at h; simp only [List.take_succ_cons, DenL]; exact ⟨h.1, DenL.take n h.2⟩
  | _ + 1, [], _ :: _, hd => by simp [DenL] at hd
  | _ + 1, _ :: _, [], hd => by simp [DenL] at hd

theorem DenL.vs {ρ : Nat → Loc} : ∀ (l : List Value), DenL ρ (l.map .v) l
  | [] => by simp [DenL]
  | x :: l => by simp only [List.map_cons, DenL, Den, true_and]; exact DenL.vs l

theorem DenL.of_get {ρ : Nat → Loc} : ∀ {s : List SV} {y : List Value}, s.length = y.length → (∀ (n : Nat) (x : SV) (v : Value), s[n]? = some x → y[n]? = some v → Den ρ x v) → DenL ρ s y
  | [], [], _, _ => by simp [DenL]
  | a :: ss, u :: vs, hl, h => by
    simp only [DenL]
    exact ⟨h 0 a u rfl rfl, DenL.of_get (by simpa using hl) (fun n x v h1 h2 => h (n + 1) x v (by simpa using h1) (by simpa using h2))⟩
  | [], _ :: _, hl, _ => by simp at hl
  | _ :: _, [], hl, _ => by simp at hl

theorem den_ofV (ρ : Nat → Loc) (x : Value) : Den ρ (SV.ofV x) x := by
  cases x <;> simp only [SV.ofV, Den] <;> first
    | rfl
    | exact ⟨_, by simp, DenL.vs _⟩

/-- A cell's value fits its kind. -/
def CK.fits : CK → Value → Prop
  | .int k, x => ∃ n, x = .int k n
  | .bool, x => ∃ b, x = .bool b
  | .raw, x => x.oneCell' = true
  | .sl, x => ∃ a n c, x = .slice a n c ∧ n ≤ c ∧ (a = none → n = 0)

def toI : Value → Int | .int _ n => n | _ => 0
def toB : Value → Bool | .bool b => b | _ => false

theorem CK.fits.one {k : CK} {x : Value} (h : k.fits x) : x.oneCell' = true := by
  cases k with
  | int k => obtain ⟨n, rfl⟩ := h; rfl
  | bool => obtain ⟨n, rfl⟩ := h; rfl
  | raw => exact h
  | sl => obtain ⟨a, n, c, rfl, _, _⟩ := h; rfl

/-- The cells of rows, from 'base' on. -/
def RowAt (ck : List CK) (cur : Array Value) (base : Nat) (rows : List (List Value)) : Prop :=
  ∀ i r, rows[i]? = some r → r.length = ck.length ∧ ∀ f k x, ck[f]? = some k → r[f]? = some x → cur[base + (i * ck.length + f)]? = some x ∧ k.fits x

/-- The elements of a slice that lies in what stays. -/
def RowsIn (M : HL) (e : TypeId) (ck : List CK) (y : Value) (rows : List (List Value)) : Prop :=
  0 < ck.length ∧ ((rows = [] ∧ ∃ a, y = .slice a 0 0) ∨ ∃ b base c cur fr, y = .slice (some ⟨b, base, none⟩) rows.length c ∧ rows.length ≤ c ∧ M b = some (.cells cur e fr) ∧ RowAt ck cur base rows)

inductive Ent where
  | gone
  | cells (e : TypeId) (vs : List SV)
  | row (own : Bool) (e : TypeId) (ck : List CK) (rows : List (List Value))
  | rcells (e : TypeId) (vs : List SV)
  deriving Inhabited

def Ent.own : Ent → Bool
  | .gone => false
  | .cells .. => true
  | .row o .. => o
  | .rcells .. => false

def EntOK (ρ : Nat → Loc) (M : HL) (w : World) (n : Nat) : Ent → Prop
  | .gone => True
  | .cells e vs => ∃ b cap cs, ρ n = some (b, 0, cap) ∧ w.heap[b]? = some (.cells cs e (0, 0)) ∧ DenL ρ vs cs.toList
  | .rcells e vs => ∃ b cap cs fr, ρ n = some (b, 0, cap) ∧ M b = some (.cells cs e fr) ∧ DenL ρ vs cs.toList
  | .row own e ck rows =>
    0 < ck.length ∧ match ρ n with
    | none => rows = []
    | some (b, base, cap) => ∃ cur fr, (if own then w.heap[b]? = some (.cells cur e (0, 0)) ∧ cur.size = base + cap * ck.length ∧ cap ≤ maxLen else M b = some (.cells cur e fr)) ∧
        rows.length ≤ cap ∧ RowAt ck cur base rows

def owns (ρ : Nat → Loc) (hp : List Ent) (n b : Nat) : Prop := ∃ e base cap, hp[n]? = some e ∧ e.own = true ∧ ρ n = some (b, base, cap)

structure Holds (ρ : Nat → Loc) (hp : List Ent) (M F : HL) (w : World) : Prop where
  ent : ∀ n e, hp[n]? = some e → EntOK ρ M w n e
  sep : ∀ n m b, owns ρ hp n b → owns ρ hp m b → n = m
  out : ∀ n b, owns ρ hp n b → F b = none
  frm : ∀ k o, F k = some o → w.heap[k]? = some o
  sub : ∀ k o, M k = some o → F k = some o
  dom : ∀ n, hp.length ≤ n → ρ n = none

/-- The streams stay; no block goes. -/
structure Same (w w' : World) : Prop where
  os : w'.os = w.os
  tape : w'.tape = w.tape
  output : w'.output = w.output
  size : w.heap.size ≤ w'.heap.size

theorem Same.refl (w : World) : Same w w := ⟨rfl, rfl, rfl, Nat.le_refl _⟩
theorem Same.trans {a b c : World} (h : Same a b) (k : Same b c) : Same a c :=
  ⟨k.os.trans h.os, k.tape.trans h.tape, k.output.trans h.output, Nat.le_trans h.size k.size⟩

def FLe (F F' : HL) : Prop := ∀ k o, F k = some o → F' k = some o
theorem FLe.refl (F : HL) : FLe F F := fun _ _ h => h
theorem FLe.trans {F F' F'' : HL} (h : FLe F F') (k : FLe F' F'') : FLe F F'' := fun a o x => k _ _ (h a o x)

/-- What a piece of code makes known, or lets be: nothing that the frame had. -/
structure Gr (M F M' F' : HL) : Prop where
  fr : FLe F F'
  kn : FLe M M'
  n : ∀ b o, M' b = some o → M b = some o ∨ F b = none
theorem Gr.refl (M F : HL) : Gr M F M F := ⟨FLe.refl F, FLe.refl M, fun _ _ h => .inl h⟩
theorem Gr.trans {M F M' F' M2 F2 : HL} (h : Gr M F M' F') (k : Gr M' F' M2 F2) : Gr M F M2 F2 := ⟨h.fr.trans k.fr, h.kn.trans k.kn, fun b o hb => by
  rcases k.n b o hb with h1 | h1
  · exact h.n b o h1
  · refine .inr ?_
    cases hf : F b with
    | none => rfl
    | some o' => rw [h.fr b o' hf] at h1; cases h1⟩

theorem Ext.refl (k : Nat) (ρ : Nat → Loc) : Ext k ρ ρ := fun _ _ => rfl
theorem Ext.trans {k : Nat} {a b c : Nat → Loc} (h : Ext k a b) (h' : Ext k b c) : Ext k a c := fun n hn => (h' n hn).trans (h n hn)
theorem Ext.mono {k k' : Nat} {a b : Nat → Loc} (h : Ext k a b) (hk : k' ≤ k) : Ext k' a b := fun n hn => h n (Nat.lt_of_lt_of_le hn hk)
theorem Holds.le {ρ ρ' : Nat → Loc} {hp : List Ent} {M F : HL} {w : World} (h : Holds ρ hp M F w) (he : Ext hp.length ρ ρ') : Le ρ ρ' := by
  intro n x hx
  by_cases hn : n < hp.length
  · rw [he n hn]; exact hx
  · rw [h.dom n (by omega)] at hx; cases hx

/-- What a run of one piece leaves. -/
def Post (K : SV → List Ent → HL → Prop) (k : Nat) (ρ : Nat → Loc) (M F : HL) (w : World) (v : Value) (w' : World) : Prop :=
  ∃ sv ρ' hp' M' F', K sv hp' M' ∧ k ≤ hp'.length ∧ Ext k ρ ρ' ∧ Holds ρ' hp' M' F' w' ∧ Gr M F M' F' ∧ Same w w' ∧ Den ρ' sv v

theorem owns_lt {ρ : Nat → Loc} {hp : List Ent} {M F : HL} {w : World} (h : Holds ρ hp M F w) {n b : Nat} (ho : owns ρ hp n b) : b < w.heap.size := by
  obtain ⟨e, base, cap, h1, h2, h3⟩ := ho
  have := h.ent n e h1
  cases e with
  | gone => cases h2
  | cells e vs =>
    obtain ⟨b', cap', cs, h4, h5, _⟩ := this
    rw [h3] at h4
    cases h4
    exact (Array.getElem?_eq_some_iff.1 h5).1
  | rcells e vs => cases h2
  | row own e ck rows =>
    simp only [Ent.own] at h2
    subst h2
    obtain ⟨_, this⟩ := this
    rw [h3] at this
    obtain ⟨cur, fr, h4, _⟩ := this
    simp only [if_true] at h4
    exact (Array.getElem?_eq_some_iff.1 h4.1).1

/-- An entry stands as it did while its own block (if it has one) and the frame stay. -/
theorem EntOK.keep {ρ ρ' : Nat → Loc} {M M' : HL} {w w' : World} {n : Nat} {e : Ent} (h : EntOK ρ M w n e) (hl : Le ρ ρ') (hn : ρ' n = ρ n) (hM : FLe M M')
    (hb : ∀ b base cap, e.own = true → ρ n = some (b, base, cap) → w'.heap[b]? = w.heap[b]?) : EntOK ρ' M' w' n e := by
  cases e with
  | gone => trivial
  | cells e vs =>
    obtain ⟨b, cap, cs, h1, h2, h3⟩ := h
    exact ⟨b, cap, cs, hn.trans h1, (hb b 0 cap rfl h1).trans h2, h3.mono hl⟩
  | rcells e vs =>
    obtain ⟨b, cap, cs, fr, h1, h2, h3⟩ := h
    exact ⟨b, cap, cs, fr, hn.trans h1, hM _ _ h2, h3.mono hl⟩
  | row own e ck rows =>
    obtain ⟨h0, h⟩ := h
    refine ⟨h0, ?_⟩
    rw [hn]
    cases hr : ρ n with
    | none => rw [hr] at h; exact h
    | some x =>
      obtain ⟨b, base, cap⟩ := x
      rw [hr] at h
      obtain ⟨cur, fr, h1, h2, h3⟩ := h
      refine ⟨cur, fr, ?_, h2, h3⟩
      cases own with
      | true =>
        simp only [if_true] at h1 ⊢
        exact ⟨(hb b base cap rfl hr).trans h1.1, h1.2⟩
      | false =>
        simp only [Bool.false_eq_true, if_false] at h1 ⊢
        exact hM _ _ h1
theorem RowsIn.mono {M M' : HL} (h : FLe M M') {e : TypeId} {ck : List CK} {y : Value} {rows : List (List Value)} (hr : RowsIn M e ck y rows) : RowsIn M' e ck y rows := by
  obtain ⟨h0, h1 | ⟨b, base, c, cur, fr, h1, h2, h3, h4⟩⟩ := hr
  · exact ⟨h0, .inl h1⟩
  · exact ⟨h0, .inr ⟨b, base, c, cur, fr, h1, h2, h _ _ h3, h4⟩⟩
def slen : Value → Nat
  | .slice _ n _ => n
  | _ => 0
def scap : Value → Nat
  | .slice _ _ c => c
  | _ => 0
theorem RowsIn.len {M : HL} {e : TypeId} {ck : List CK} {y : Value} {rows : List (List Value)} (hr : RowsIn M e ck y rows) : slen y = rows.length := by
  obtain ⟨h0, ⟨rfl, a, rfl⟩ | ⟨b, base, c, cur, fr, rfl, _⟩⟩ := hr <;> rfl
theorem RowsIn.is {M : HL} {e : TypeId} {ck : List CK} {y : Value} {rows : List (List Value)} (hr : RowsIn M e ck y rows) : ∃ a n c, y = .slice a n c ∧ n ≤ c ∧ (a = none → n = 0) := by
  obtain ⟨h0, ⟨rfl, a, rfl⟩ | ⟨b, base, c, cur, fr, rfl, h, _⟩⟩ := hr
  · exact ⟨_, _, _, rfl, Nat.le_refl _, fun _ => rfl⟩
  · exact ⟨_, _, _, rfl, h, fun h => by cases h⟩
end Go.Vc
