/-
  Symbolic execution, part P: regions whose order is drawn: the law.
-/
import Derived.Test.YthomcgclkbmnkaaDoorVck
import Derived.Orders
import Derived.OrdersHeld
namespace Go.Vc

section
variable {P : Program} {ops : Array Oper} {Q : Exit → Act → World → Prop} {md : Region.Mode}

/-- Whatever order is picked from here on; behind an operation i that changes the world 'T i' holds. -/
def wpAnyT (P : Program) (md : Region.Mode) (ops : Array Oper) (Q : Exit → Act → World → Prop) (T : Array Bool → Nat → World → Prop) : Nat → Array Bool → Act → World → Prop
  | 0, listed, a, w => Region.ready md ops listed = [] ∧ Q .normal a w
  | fuel + 1, listed, a, w =>
    (Region.ready md ops listed = [] → Q .normal a w) ∧
    ∀ i ∈ Region.ready md ops listed, wpOp P ops Q i (fun a' w' => (w' = w ∨ T listed i w') ∧ wpAnyT P md ops Q T fuel (listed.setIfInBounds i true) a' w') a w

theorem wpAny_of_T {T : Array Bool → Nat → World → Prop} : ∀ (fuel : Nat) (listed : Array Bool) (a : Act) (w : World), wpAnyT P md ops Q T fuel listed a w → wpAny P md ops Q fuel listed a w
  | 0, _, _, _, h => h
  | fuel + 1, _, _, _, h => ⟨h.1, fun i hi => wpOp_mono (fun a' w' h' => wpAny_of_T fuel _ a' w' h'.2) (h.2 i hi)⟩

theorem wpAnyT_mono {T T' : Array Bool → Nat → World → Prop} (hT : ∀ l i w, T l i w → T' l i w) : ∀ (fuel : Nat) (listed : Array Bool) (a : Act) (w : World), wpAnyT P md ops Q T fuel listed a w → wpAnyT P md ops Q T' fuel listed a w
  | 0, _, _, _, h => h
  | fuel + 1, listed, _, _, h => ⟨h.1, fun i hi => wpOp_mono (fun a' w' h' => ⟨h'.1.imp id (hT listed i w'), wpAnyT_mono hT fuel _ a' w' h'.2⟩) (h.2 i hi)⟩

theorem wpAnyT_first {T : Array Bool → Nat → World → Prop} {S : World → Prop} {E : Nat → Bool} {i : Nat} {oi : Oper} {v : Value} {D : List Nat} (hi : ops[i]? = some oi) (hsel : ∀ (j : Nat) (o : Oper) cs b, ops[j]? = some o → o.op ≠ .select cs b)
    (hQ : ∀ c a w, Q (.panic c) (a.put oi.dst v) w → Q (.panic c) a w)
    (hD : ∀ j ∈ D, j ≠ i → ∃ oj, ops[j]? = some oj ∧ ∃ e ∈ oj.after, Region.binds md e = true ∧ e.on ∈ D) (hT : ∀ (l : Array Bool) j, (∀ d ∈ D, E d = true → l.getD d true = false) → j ∉ D → ∀ w, T l j w → S w) (hE : E i = false) (hTi : ∀ l j w, T (l.setIfInBounds i true) j w → T l j w) :
    ∀ (fuel : Nat) (listed : Array Bool) (a : Act) (w : World), (∀ j ∈ D, listed.getD j true = false) → i ∈ D →
      (∀ j oj, ops[j]? = some oj → j ∉ D → listed.getD j true = false → oi.apart ops oj = true) →
      i ∈ Region.ready md ops listed → YieldsIf P ops S oi v a → S w →
      wpAnyT P md ops Q T fuel (listed.setIfInBounds i true) (a.put oi.dst v) w → wpAnyT P md ops Q T (fuel + 1) listed a w := by
  intro fuel
  induction fuel with
  | zero =>
    intro listed a w hun hiD hfree hr hy hS H
    refine ⟨fun h => (by rw [h] at hr; cases hr), fun j hj => ?_⟩
    by_cases hji : j = i
    · subst hji; exact hy.wpOp hi hS ⟨.inl rfl, H⟩
    · have := ready_mono hj hji
      rw [H.1] at this
      cases this
  | succ fuel ih =>
    intro listed a w hun hiD hfree hr hy hS H
    refine ⟨fun h => (by rw [h] at hr; cases hr), fun j hj => ?_⟩
    by_cases hji : j = i
    · subst hji; exact hy.wpOp hi hS ⟨.inl rfl, H⟩
    · have h1 := H.2 j (ready_mono hj hji)
      obtain ⟨hjun, oj, hoj, hall⟩ := mem_ready.1 hj
      have hjD : j ∉ D := fun hjD => by
        obtain ⟨o', ho', e, he, hb, hon⟩ := hD j hjD hji
        have : o' = oj := Option.some.inj (ho'.symm.trans hoj)
        subst this
        have h1 := hall e he hb
        have h0 := hun _ hon
        rcases Nat.lt_or_ge e.on listed.size with h' | h'
        · simp [h'] at h0 h1; rw [h0] at h1; cases h1
        · simp [Array.getElem?_eq_none h'] at h1
      have h2 := wpOp_putIf hoj (hfree j oj hoj hjD hjun) (fun cs b => hsel i oi cs b hi) (fun cs b => hsel j oj cs b hoj) hQ hy h1
      have hfree' : ∀ k ok, ops[k]? = some ok → k ∉ D → (listed.setIfInBounds j true).getD k true = false → oi.apart ops ok = true := fun k ok hk hkD hun' => by
        refine hfree k ok hk hkD ?_
        by_cases hjk : j = k
        · subst hjk; exact hjun
        · rw [getD_set_ne true hjk] at hun'; exact hun'
      have hun' : ∀ k ∈ D, (listed.setIfInBounds j true).getD k true = false := fun k hk => by
        have hne : j ≠ k := fun h => hjD (by rw [h]; exact hk)
        rw [getD_set_ne true hne]
        exact hun k hk
      refine wpOp_mono (fun a' w' h3 => ⟨h3.2.1.imp id (hTi listed j w'), ih (listed.setIfInBounds j true) a' w' hun' hiD hfree' (ready_mono hr (Ne.symm hji)) h3.1 ?_ ?_⟩) h2
      · rcases h3.2.1 with h | h
        · rw [h]; exact hS
        · refine hT (listed.setIfInBounds i true) j (fun d hd he => ?_) hjD w' h
          have hne : i ≠ d := fun e => by rw [e, he] at hE; cases hE
          rw [getD_set_ne true hne]
          exact hun d hd
      · rw [Array.setIfInBounds_comm _ _ hji]
        exact h3.2.2
end

/-! ### The plan of a region -/
section
variable (md : Region.Mode) (ops : Array Oper)
def DT.heads : DT → List Nat
  | .eff _ i _ => [i]
  | .both a b => a.heads ++ b.heads
  | _ => []
def coversB (l : Array Bool) (h : List Nat) : Bool := !(Region.ready md ops l).isEmpty && (Region.ready md ops l).all h.contains
def takeOK (l : Array Bool) (i : Nat) (deps : List Nat) : Bool :=
  (Region.ready md ops l).contains i && deps.contains i &&
  deps.all (fun j => !l.getD j true && (j == i || (match ops[j]? with | some oj => oj.after.any (fun e => Region.binds md e && deps.contains e.on) | none => false))) &&
  (match ops[i]? with
  | some oi => (List.range ops.size).all fun j => deps.contains j || l.getD j true || (match ops[j]? with | some oj => oi.apart ops oj | none => true)
  | none => false)
def dtOK : DT → Bool → Nat → Array Bool → Bool
  | .done, top, _, l => top && (Region.ready md ops l).isEmpty
  | .take i deps r, top, f + 1, l => top && takeOK md ops l i deps && dtOK r true f (l.setIfInBounds i true)
  | .eff _ i r, top, f + 1, l => (!top || coversB md ops l [i]) && decide (i < ops.size) && dtOK r true f (l.setIfInBounds i true)
  | .both a b, top, f + 1, l => (!top || coversB md ops l ((DT.both a b).heads)) && dtOK a false (f + 1) l && dtOK b false (f + 1) l
  | _, _, 0, _ => false
end

/-! ### Quiet operations: what was there stays -/
def roE : Ent → Ent
  | .gone => .gone
  | .cells e vs => .rcells e vs
  | .row _ e ck rows => .row false e ck rows
  | .rcells e vs => .rcells e vs
def roL : List Ent → (List Ent → Prop) → Prop
  | [], K => K []
  | e :: r, K => match e with
    | .gone => roL r fun l => K (.gone :: l)
    | .cells t vs => roL r fun l => K (.rcells t vs :: l)
    | .row _ t ck rows => roL r fun l => K (.row false t ck rows :: l)
    | .rcells t vs => roL r fun l => K (.rcells t vs :: l)
def elist : List Ent → (List Ent → Prop) → Prop
  | [], K => K []
  | e :: r, K => elist r fun r' => K (e :: r')
def eapp : List Ent → List Ent → (List Ent → Prop) → Prop
  | [], l, K => elist l K
  | e :: r, l, K => eapp r l fun l' => K (e :: l')
def newOK : List Ent → Bool
  | [] => true
  | .cells _ _ :: r => newOK r
  | .row true _ _ _ :: r => newOK r
  | .gone :: r => newOK r
  | _ :: _ => false
theorem roL_eq : ∀ (l : List Ent) (K : List Ent → Prop), roL l K = K (l.map roE)
  | [], _ => rfl
  | e :: r, K => by cases e <;> simp [roL, roE, roL_eq r]
theorem elist_eq : ∀ (a : List Ent) (K : List Ent → Prop), elist a K = K a
  | [], _ => rfl
  | e :: r, K => by simp [elist, elist_eq r]
theorem eapp_eq : ∀ (a b : List Ent) (K : List Ent → Prop), eapp a b K = K (a ++ b)
  | [], b, K => by simp [eapp, elist_eq]
  | e :: r, b, K => by simp [eapp, eapp_eq r]
def vQuiet (f : List Ent → HL → (SV → List Ent → HL → Prop) → Prop) (hp : List Ent) (M : HL) (K : SV → List Ent → HL → Prop) : Prop :=
  ∀ Mr, FLe M Mr → roL hp fun hpr => f hpr Mr fun v hp' _ => match newOK (dropN hp' (llen hp)) with
    | true => eapp hp (dropN hp' (llen hp)) fun hp2 => K v hp2 M
    | false => False

/-- The heap of a world. -/
def heapL (w : World) : HL := fun b => w.heap[b]?
/-- Every block stays as it is. -/
def Keeps (w w' : World) : Prop := ∀ (b : Nat) (o : Obj), w.heap[b]? = some o → w'.heap[b]? = some o
theorem heap_alloc_keeps (w : World) (ob : Obj) : Keeps w (w.alloc ob) := fun b o h => by
  have hb := (Array.getElem?_eq_some_iff.1 h).1
  unfold World.alloc
  simp only []
  rw [Array.getElem?_push, if_neg (by omega)]
  exact h
theorem Keeps.refl (w : World) : Keeps w w := fun _ _ h => h

theorem Holds.quiet {ρ : Nat → Loc} {hp : List Ent} {M F : HL} {w : World} (H : Holds ρ hp M F w) : Holds ρ (hp.map roE) (heapL w) (heapL w) w := by
  have hno : ∀ n b, ¬ owns ρ (hp.map roE) n b := by
    rintro n b ⟨e, _, _, h1, h2, _⟩
    rw [List.getElem?_map] at h1
    obtain ⟨e0, _, rfl⟩ := Option.map_eq_some_iff.1 h1
    cases e0 <;> cases h2
  refine ⟨fun n e he => ?_, fun n m b h => absurd h (hno n b), fun n b h => absurd h (hno n b), fun _ _ h => h, fun _ _ h => h, fun n hn => H.dom n (by simpa using hn)⟩
  rw [List.getElem?_map] at he
  obtain ⟨e0, h0, rfl⟩ := Option.map_eq_some_iff.1 he
  have hE := H.ent n e0 h0
  have hM : ∀ b o, M b = some o → heapL w b = some o := fun b o h => H.frm _ _ (H.sub _ _ h)
  cases e0 with
  | gone => trivial
  | cells e vs =>
    obtain ⟨b, cap, cs, h1, h2, h3⟩ := hE
    exact ⟨b, cap, cs, (0, 0), h1, h2, h3⟩
  | rcells e vs =>
    obtain ⟨b, cap, cs, fr, h1, h2, h3⟩ := hE
    exact ⟨b, cap, cs, fr, h1, hM _ _ h2, h3⟩
  | row own e ck rows =>
    simp only [roE, EntOK] at hE ⊢
    refine ⟨hE.1, ?_⟩
    cases hρ : ρ n with
    | none => rw [hρ] at hE; exact hE.2
    | some l =>
      obtain ⟨b, base, cap⟩ := l
      rw [hρ] at hE
      obtain ⟨_, cur, fr, h1, h2, h3⟩ := hE
      cases own with
      | true =>
        simp only [if_true] at h1
        exact ⟨cur, (0, 0), h1.1, h2, h3⟩
      | false =>
        simp only [Bool.false_eq_true, if_false] at h1
        exact ⟨cur, fr, hM _ _ h1, h2, h3⟩

theorem newOK_spec : ∀ {l : List Ent}, newOK l = true → ∀ (n : Nat) (e : Ent), l[n]? = some e → (∀ t vs, e ≠ .rcells t vs) ∧ ∀ t ck rows, e ≠ .row false t ck rows
  | [], _, n, e, h => by simp at h
  | a :: r, hn, 0, e, h => by
    simp at h
    subst h
    cases a with
    | gone => simp
    | cells => simp
    | rcells => simp [newOK] at hn
    | row own => cases own <;> simp [newOK] at hn ⊢
  | a :: r, hn, n + 1, e, h => by
    refine newOK_spec (l := r) ?_ n e (by simpa using h)
    cases a with
    | gone => exact hn
    | cells => exact hn
    | rcells => simp [newOK] at hn
    | row own => cases own <;> simp [newOK] at hn ⊢; exact hn

theorem Holds.unquiet {ρ ρ' : Nat → Loc} {hp hp' : List Ent} {M F M' F' : HL} {w w' : World} (H : Holds ρ hp M F w) (hk : hp.length ≤ hp'.length) (hx : Ext hp.length ρ ρ') (H' : Holds ρ' hp' M' F' w') (hF : FLe (heapL w) F')
    (hn : newOK (hp'.drop hp.length) = true) : Holds ρ' (hp ++ hp'.drop hp.length) M F w' ∧ Keeps w w' := by
  have hkeep : Keeps w w' := fun b o h => H'.frm _ _ (hF _ _ h)
  have hle := H.le hx
  have old : ∀ n e, n < hp.length → (hp ++ hp'.drop hp.length)[n]? = some e → hp[n]? = some e := fun n e hn he => by rwa [List.getElem?_append_left hn] at he
  have new : ∀ n e, hp.length ≤ n → (hp ++ hp'.drop hp.length)[n]? = some e → hp'[n]? = some e ∧ (hp'.drop hp.length)[n - hp.length]? = some e := fun n e hn he => by
    rw [List.getElem?_append_right hn] at he
    refine ⟨?_, he⟩
    rw [List.getElem?_drop, show hp.length + (n - hp.length) = n by omega] at he
    exact he
  have hcase : ∀ n b, owns ρ' (hp ++ hp'.drop hp.length) n b → (n < hp.length ∧ owns ρ hp n b) ∨ (hp.length ≤ n ∧ owns ρ' hp' n b) := by
    rintro n b ⟨e, ba, ca, h1, h2, h3⟩
    rcases Nat.lt_or_ge n hp.length with h | h
    · exact .inl ⟨h, e, ba, ca, old n e h h1, h2, by rw [← hx n h]; exact h3⟩
    · exact .inr ⟨h, e, ba, ca, (new n e h h1).1, h2, h3⟩
  have hno : ∀ n m b, owns ρ hp n b → owns ρ' hp' m b → False := fun n m b h1 h2 => by
    have hb := owns_lt H h1
    have h3 := hF b _ (show heapL w b = some _ from Array.getElem?_eq_getElem hb)
    rw [H'.out m b h2] at h3
    cases h3
  refine ⟨⟨fun n e he => ?_, fun n m b h1 h2 => ?_, fun n b h => ?_, fun k o h => hkeep _ _ (H.frm _ _ h), H.sub, fun n hn => H'.dom n (by simp at hn; omega)⟩, hkeep⟩
  · rcases Nat.lt_or_ge n hp.length with h | h
    · refine (H.ent n e (old n e h he)).keep hle (hx n h) (FLe.refl M) fun b ba ca h2 h3 => ?_
      have hb := owns_lt H ⟨e, ba, ca, old n e h he, h2, h3⟩
      rw [hkeep b _ (Array.getElem?_eq_getElem hb), Array.getElem?_eq_getElem hb]
    · obtain ⟨h1, h2⟩ := new n e h he
      have hE := H'.ent n e h1
      have h3 := newOK_spec hn _ _ h2
      cases e with
      | gone => trivial
      | cells e vs => exact hE
      | rcells e vs => exact absurd rfl (h3.1 _ _)
      | row own e ck rows =>
        cases own with
        | false => exact absurd rfl (h3.2 _ _ _)
        | true => exact hE
  · rcases hcase n b h1 with ⟨ha, h1⟩ | ⟨ha, h1⟩ <;> rcases hcase m b h2 with ⟨hb, h2⟩ | ⟨hb, h2⟩
    · exact H.sep n m b h1 h2
    · exact (hno _ _ _ h1 h2).elim
    · exact (hno _ _ _ h2 h1).elim
    · exact H'.sep n m b h1 h2
  · rcases hcase n b h with ⟨ha, h1⟩ | ⟨ha, h1⟩
    · exact H.out n b h1
    · cases hFb : F b with
      | none => rfl
      | some o =>
        have := hF b o (H.frm _ _ hFb)
        rw [H'.out n b h1] at this
        cases this

/-! ### What was loaded ahead of its turn -/
mutual
/-- The same value, and no other one. -/
def rig : SV → SV → Prop → Prop
  | .v x, s, K => match s with | .v y => x = y ∧ K | _ => False
  | .ptr n w i f, s, K => match s with
    | .ptr n' w' i' f' => match Nat.beq n n', Nat.beq w w', Nat.beq f f' with
      | true, true, true => i = i' ∧ K
      | _, _, _ => False
    | _ => False
  | .agg l, s, K => match s with | .agg r => rigL l r K | _ => False
  | .ifc t x, s, K => match s with
    | .ifc t' y => match Nat.beq t t' with | true => rig x y K | false => False
    | _ => False
  | .rsl y, s, K => match s with | .rsl y' => y = y' ∧ K | _ => False
  | .rpt y w i f, s, K => match s with
    | .rpt y' w' i' f' => match Nat.beq w w', Nat.beq f f' with
      | true, true => y = y' ∧ i = i' ∧ K
      | _, _ => False
    | _ => False
  | _, _, _ => False
def rigL : List SV → List SV → Prop → Prop
  | [], [], K => K
  | x :: l, y :: r, K => rig x y (rigL l r K)
  | _, _, _ => False
end
mutual
theorem rig_spec {ρ ρ' : Nat → Loc} (hle : Le ρ ρ') : ∀ (s s' : SV) (K : Prop), rig s s' K → ∀ y y', Den ρ s y → Den ρ' s' y' → K ∧ y = y'
  | .v x, s', K, h, y, y', hd, hd' => by
    unfold rig at h
    split at h
    · obtain ⟨rfl, h⟩ := h
      simp only [Den] at hd hd'
      exact ⟨h, hd.symm.trans hd'⟩
    · exact h.elim
  | .ptr n w i f, s', K, h, y, y', hd, hd' => by
    unfold rig at h
    split at h
    · split at h
      · rename_i h1 h2 h3
        have h1 := Nat.eq_of_beq_eq_true h1
        have h2 := Nat.eq_of_beq_eq_true h2
        have h3 := Nat.eq_of_beq_eq_true h3
        subst h1; subst h2; subst h3
        obtain ⟨rfl, h⟩ := h
        simp only [Den] at hd hd'
        obtain ⟨b, base, cap, h4, rfl⟩ := hd
        obtain ⟨b', base', cap', h5, rfl⟩ := hd'
        rw [hle _ _ h4] at h5
        cases h5
        exact ⟨h, rfl⟩
      · exact h.elim
    · exact h.elim
  | .agg l, s', K, h, y, y', hd, hd' => by
    unfold rig at h
    split at h
    · simp only [Den] at hd hd'
      obtain ⟨cs, rfl, hd⟩ := hd
      obtain ⟨cs', rfl, hd'⟩ := hd'
      obtain ⟨h1, rfl⟩ := rigL_spec hle l _ K h cs cs' hd hd'
      exact ⟨h1, rfl⟩
    · exact h.elim
  | .ifc t x, s', K, h, y, y', hd, hd' => by
    unfold rig at h
    split at h
    · split at h
      · rename_i h1
        have h1 := Nat.eq_of_beq_eq_true h1
        subst h1
        simp only [Den] at hd hd'
        obtain ⟨z, rfl, hd⟩ := hd
        obtain ⟨z', rfl, hd'⟩ := hd'
        obtain ⟨h1, rfl⟩ := rig_spec hle x _ K h z z' hd hd'
        exact ⟨h1, rfl⟩
      · exact h.elim
    · exact h.elim
  | .rsl z, s', K, h, y, y', hd, hd' => by
    unfold rig at h
    split at h
    · obtain ⟨rfl, h⟩ := h
      simp only [Den] at hd hd'
      exact ⟨h, hd.1.trans hd'.1.symm⟩
    · exact h.elim
  | .rpt z w i f, s', K, h, y, y', hd, hd' => by
    unfold rig at h
    split at h
    · split at h
      · rename_i h1 h2
        have h1 := Nat.eq_of_beq_eq_true h1
        have h2 := Nat.eq_of_beq_eq_true h2
        subst h1; subst h2
        obtain ⟨rfl, rfl, h⟩ := h
        simp only [Den] at hd hd'
        obtain ⟨a, n, c, rfl, rfl⟩ := hd
        obtain ⟨a', n', c', h4, rfl⟩ := hd'
        cases h4
        exact ⟨h, rfl⟩
      · exact h.elim
    · exact h.elim
  | .slc .., _, _, h, _, _, _, _ => by unfold rig at h; exact h.elim
  | .slx .., _, _, h, _, _, _, _ => by unfold rig at h; exact h.elim
  | .emp, _, _, h, _, _, _, _ => by unfold rig at h; exact h.elim
  | .tup _, _, _, h, _, _, _, _ => by unfold rig at h; exact h.elim
  | .fn .., _, _, h, _, _, _, _ => by unfold rig at h; exact h.elim
  | .any, _, _, h, _, _, _, _ => by unfold rig at h; exact h.elim
theorem rigL_spec {ρ ρ' : Nat → Loc} (hle : Le ρ ρ') : ∀ (s s' : List SV) (K : Prop), rigL s s' K → ∀ y y', DenL ρ s y → DenL ρ' s' y' → K ∧ y = y'
  | [], [], K, h, [], [], _, _ => ⟨by simpa [rigL] using h, rfl⟩
  | x :: l, x' :: r, K, h, y :: ys, y' :: ys', hd, hd' => by
    simp only [DenL] at hd hd'
    unfold rigL at h
    obtain ⟨h1, rfl⟩ := rig_spec hle x x' _ h y y' hd.1 hd'.1
    obtain ⟨h2, rfl⟩ := rigL_spec hle l r K h1 ys ys' hd.2 hd'.2
    exact ⟨h2, rfl⟩
  | [], _ :: _, _, h, _, _, _, _ => by simp [rigL] at h
  | _ :: _, [], _, h, _, _, _, _ => by simp [rigL] at h
  | [], [], _, _, _ :: _, _, hd, _ => by simp [DenL] at hd
  | [], [], _, _, [], _ :: _, _, hd => by simp [DenL] at hd
  | _ :: _, _ :: _, _, _, [], _, hd, _ => by simp [DenL] at hd
  | _ :: _, _ :: _, _, _, _ :: _, [], _, hd => by simp [DenL] at hd
end
end Go.Vc
