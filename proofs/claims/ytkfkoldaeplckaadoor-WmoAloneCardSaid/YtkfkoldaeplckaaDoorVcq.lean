/-
  Symbolic execution, part K: an operation, whatever it is; regions in the order of the text.
-/
import Derived.Test.YtkfkoldaeplckaaDoorVcjm
import Derived.Orders
import Derived.OrdersHeld
set_option linter.unusedSimpArgs false
set_option linter.unusedVariables false

namespace Go.Vc
section
variable {P : Program} {Γ : Nat → Option Trans} {tm : List SV} {hp : List Ent} {M F : HL} {K : SV → List Ent → HL → Prop} {ρ : Nat → Loc} {w : World} {a : Act}

/-- Looks at no memory. -/
def pureO : POp → Bool
  | .mov _ | .pick .. | .build .. | .nilck _ | .bin .. | .eqp .. | .eqb .. | .un .. | .conv .. | .iface .. | .clo .. | .slice .. | .fld .. | .part .. | .idx .. | .idxa .. | .ixv .. | .ext .. | .len _ | .cap _ | .minmax .. | .tassert .. => true
  | _ => false

theorem vcOp_both (hG : GOK P Γ) (H : Holds ρ hp M F w) (hD : DenL ρ tm a.tmps.toList) {o : Oper} (h : vcOp Γ (cop P o) tm hp M K) :
    (POk P o a ρ fun v => K v hp M) ∨ (pureO (cop P o) = false ∧ OpWp P o a w (Post K hp.length ρ M F w)) := by
  have h0 := h
  unfold cop at h
  split at h
  case h_1 x ho => exact .inl (s_mov H hD (.inl ho) h)
  case h_2 x ho => exact .inl (s_mov H hD (.inr ho) h)
  case h_3 c x y ho => exact .inl (s_pick H hD ho h)
  case h_4 e ho => exact .inr ⟨by simp only [cop, ho]; repeat' (first | rfl | split), s_alloc H hD ho h0⟩
  case h_5 e x ho => exact .inr ⟨by simp only [cop, ho]; repeat' (first | rfl | split), s_box H hD ho h⟩
  case h_6 t ps ho => exact .inl (s_build H hD ho h0)
  case h_7 t n ps ho => exact .inr ⟨by simp only [cop, ho]; repeat' (first | rfl | split), s_bslice H hD ho h0⟩
  case h_8 t x ho => exact .inr ⟨by simp only [cop, ho]; repeat' (first | rfl | split), s_load H hD ho h0⟩
  case h_9 t x y ho => exact .inr ⟨by simp only [cop, ho]; repeat' (first | rfl | split), s_store H hD ho h0⟩
  case h_10 x ho => exact .inl (s_nilck H hD ho h)
  case h_11 op t x y u ho =>
    split at h
    · split at h
      · exact .inl (s_bin H hD ho h)
      · exact .inl (s_eqb H hD ho (.inl rfl) h ‹_›)
      · exact .inl (s_eqp H hD ho (.inl rfl) h (.inl ⟨rfl, _, ‹_›⟩))
      · exact .inl (s_eqp H hD ho (.inl rfl) h (.inr (.inl ⟨rfl, _, ‹_›⟩)))
      · exact .inl (s_eqp H hD ho (.inl rfl) h (.inr (.inr (.inl ⟨rfl, _, _, _, ‹_›⟩))))
      · exact .inl (s_eqp H hD ho (.inl rfl) h (.inr (.inr (.inr ⟨rfl, _, ‹_›⟩))))
      · simp [vcOp] at h
    · split at h
      · exact .inl (s_bin H hD ho h)
      · exact .inl (s_eqb H hD ho (.inr rfl) h ‹_›)
      · exact .inl (s_eqp H hD ho (.inr rfl) h (.inl ⟨rfl, _, ‹_›⟩))
      · exact .inl (s_eqp H hD ho (.inr rfl) h (.inr (.inl ⟨rfl, _, ‹_›⟩)))
      · exact .inl (s_eqp H hD ho (.inr rfl) h (.inr (.inr (.inl ⟨rfl, _, _, _, ‹_›⟩))))
      · exact .inl (s_eqp H hD ho (.inr rfl) h (.inr (.inr (.inr ⟨rfl, _, ‹_›⟩))))
      · simp [vcOp] at h
    · exact .inl (s_bin H hD ho h)
  case h_12 op t x ho => exact .inl (s_un H hD ho h)
  case h_13 s d x ho => exact .inl (s_conv H hD ho h0)
  case h_14 t x ho =>
    split at h
    · exact .inl (s_iface H hD ho h ‹_›)
    · simp [vcOp] at h
  case h_15 f x y ho => exact .inl (s_clo H hD ho h)
  case h_16 t r ho => exact .inr ⟨by simp only [cop, ho]; split <;> rfl, s_mkmap H hD ho h0⟩
  case h_17 t x y ho => exact .inr ⟨by simp only [cop, ho]; repeat' (first | rfl | split), s_mslice H hD ho h0⟩
  case h_18 t x lo hi mx ho =>
    split at h
    · split at h
      · exact .inl (s_slice H hD ho ‹_› ‹_› h)
      · simp [vcOp] at h
    · simp [vcOp] at h
  case h_19 t x f ho => exact .inl (s_fld H hD ho h0)
  case h_20 t x f ho => exact .inl (s_part H hD ho h0)
  case h_21 t x i ho =>
    split at h
    · split at h
      · exact .inl (s_idx H hD ho ‹_› ‹_› h)
      · simp [vcOp] at h
    · split at h
      · exact .inl (s_idxa H hD ho ‹_› ‹_› h)
      · simp [vcOp] at h
    · simp [vcOp] at h
  case h_22 x i ho => exact .inl (s_ext H hD ho h)
  case h_23 c ho =>
    split at h
    · rename_i hc1; exact .inr ⟨by simp only [cop, ho, hc1]; rfl, s_call H hD hG ho hc1 h⟩
    · rename_i hne hc1; exact .inr ⟨by simp only [cop, ho, hc1]; rfl, s_callv H hD hG ho hc1 h⟩
    · split at h
      · rename_i x t hx ht
        split at h
        · refine .inl (s_len H hD ho ‹_› ?_ ?_ ‹_› h)
          · apply Array.ext'; exact hx
          · apply Array.ext'; exact ht
        · simp [vcOp] at h
      · simp [vcOp] at h
    · split at h
      · rename_i x t hx ht
        split at h
        · refine .inl (s_cap H hD ho ‹_› ?_ ?_ ‹_› h)
          · apply Array.ext'; exact hx
          · apply Array.ext'; exact ht
        · simp [vcOp] at h
      · simp [vcOp] at h
    · rename_i hcal
      split at h
      · rename_i x y t u hx ht
        split at h
        · rename_i e e' hte hue
          split at h
          · rename_i z hz
            split at h
            · rename_i hside
              refine .inr ⟨?_, s_append H hD ho ‹_› ?_ ?_ hte ⟨_, hue⟩ hz hside.1 hside.2.1 hside.2.2 h⟩
              · simp only [cop, ho, hcal, hx, ht, hte, hue, hz]; split <;> rfl
              · apply Array.ext'; exact hx
              · apply Array.ext'; exact ht
            · simp [vcOp] at h
          · simp [vcOp] at h
        · rename_i e k hte hue
          split at h
          · rename_i z hz
            split at h
            · rename_i hside
              refine .inr ⟨?_, s_appendz H hD ho ‹_› ?_ ?_ hte ⟨_, hue⟩ hz hside.1 hside.2.1 hside.2.2 h⟩
              · simp only [cop, ho, hcal, hx, ht, hte, hue, hz]; split <;> rfl
              · apply Array.ext'; exact hx
              · apply Array.ext'; exact ht
            · simp [vcOp] at h
          · simp [vcOp] at h
        · simp [vcOp] at h
      · simp [vcOp] at h
    · split at h
      · split at h <;> simp [vcOp] at h
      · simp [vcOp] at h
    · exact .inl (s_minmax (mx := true) H hD ho (by simpa using ‹_›) h)
    · exact .inl (s_minmax (mx := false) H hD ho (by simpa using ‹_›) h)
    · rename_i hcal
      split at h
      · rename_i x t hx ht
        split at h
        · rename_i e hte
          split at h
          · rename_i z hz
            split at h
            · rename_i hside
              refine .inr ⟨?_, s_clr H hD ho ‹_› ?_ ?_ hte hz hside.1 hside.2 h⟩
              · simp only [cop, ho, hcal, hx, ht, hte, hz]; split <;> rfl
              · apply Array.ext'; exact hx
              · apply Array.ext'; exact ht
            · simp [vcOp] at h
          · simp [vcOp] at h
        · simp [vcOp] at h
      · simp [vcOp] at h
    · simp [vcOp] at h
    · simp [vcOp] at h
  case h_24 x t u ok ho =>
    split at h
    · split at h
      · exact .inl (s_tassert H hD ho ‹_› ‹_› h)
      · simp [vcOp] at h
    · simp [vcOp] at h
  case h_25 t m k ok ho =>
    split at h
    · rename_i kty e hm
      split at h
      · rename_i z q ek hz hq hek
        exact .inr ⟨by simp only [cop, ho, hm, hz, hq, hek]; rfl, s_mapget H hD ho hm hz hq h⟩
      · simp [vcOp] at h
    · simp [vcOp] at h
  case h_26 t m k x ho =>
    split at h
    · rename_i kty e hm
      split at h
      · rename_i q hq
        exact .inr ⟨by simp only [cop, ho, hm, hq]; rfl, s_mapput H hD ho hm hq h⟩
      · simp [vcOp] at h
    · simp [vcOp] at h
  case h_27 t x i ho =>
    split at h
    · split at h
      · rename_i hs
        exact .inl (s_ixv H hD ho ‹_› hs.1 hs.2.1 hs.2.2.1 hs.2.2.2 h)
      · simp [vcOp] at h
    · simp [vcOp] at h
  case h_28 => simp [vcOp] at h

theorem vcPure_sound (hG : GOK P Γ) (H : Holds ρ hp M F w) (hD : DenL ρ tm a.tmps.toList) {o : Oper} (hp0 : pureO (cop P o) = true) (h : vcOp Γ (cop P o) tm hp M K) : POk P o a ρ fun v => K v hp M := by
  rcases vcOp_both hG H hD h with h | ⟨h1, _⟩
  · exact h
  · rw [hp0] at h1; cases h1
theorem vcOp_sound (hG : GOK P Γ) (H : Holds ρ hp M F w) (hD : DenL ρ tm a.tmps.toList) {o : Oper} (h : vcOp Γ (cop P o) tm hp M K) : OpWp P o a w (Post K hp.length ρ M F w) := by
  rcases vcOp_both hG H hD h with h | ⟨_, h⟩
  · exact h.op H
  · exact h
end
end Go.Vc
/-
  Symbolic execution, part P: regions whose order is drawn: the law.
-/
namespace Go.Vc

section
variable {P : Program} {ops : Array Oper} {Q : Exit → Act → World → Prop} {md : Region.Mode}

/-- Whatever order is picked from here on; behind an operation i that changes the world 'T i' holds. -/
def wpAnyT (P : Program) (md : Region.Mode) (ops : Array Oper) (Q : Exit → Act → World → Prop) (T : Array Bool → Nat → World → Prop) : Nat → Array Bool → Act → World → Prop
  | 0, listed, a, w => Region.ready md ops listed = [] ∧ Q .normal a w
  | fuel + 1, listed, a, w =>
    (Region.ready md ops listed = [] → Q .normal a w) ∧
    ∀ i ∈ Region.ready md ops listed, wpOp P ops Q i (fun a' w' => (w' = w ∨ T listed i w') ∧ wpAnyT P md ops Q T fuel (listed.setIfInBounds i true) a' w') a w

theorem wpAny_of_T {T : Array Bool → Nat → World → Prop} : ∀ (fuel : Nat) (listed : Array Bool) (a : Act) (w : World), wpAnyT P md ops Q T fuel listed a w → wpAny P md ops Q fuel listed a w
  | 0, _, _, _, h => h
  | fuel + 1, _, _, _, h => ⟨h.1, fun i hi => wpOp_mono (fun a' w' h' => wpAny_of_T fuel _ a' w' h'.2) (h.2 i hi)⟩

theorem wpAnyT_mono {T T' : Array Bool → Nat → World → Prop} (hT : ∀ l i w, T l i w → T' l i w) : ∀ (fuel : Nat) (listed : Array Bool) (a : Act) (w : World), wpAnyT P md ops Q T fuel listed a w → wpAnyT P md ops Q T' fuel listed a w
  | 0, _, _, _, h => h
  | fuel + 1, listed, _, _, h => ⟨h.1, fun i hi => wpOp_mono (fun a' w' h' => ⟨h'.1.imp id (hT listed i w'), wpAnyT_mono hT fuel _ a' w' h'.2⟩) (h.2 i hi)⟩

theorem wpAnyT_first {T : Array Bool → Nat → World → Prop} {S : World → Prop} {E : Nat → Bool} {i : Nat} {oi : Oper} {v : Value} {D : List Nat} (hi : ops[i]? = some oi) (hsel : ∀ (j : Nat) (o : Oper) cs b, ops[j]? = some o → o.op ≠ .select cs b)
    (hQ : ∀ c a w, Q (.panic c) (a.put oi.dst v) w → Q (.panic c) a w)
    (hD : ∀ j ∈ D, j ≠ i → ∃ oj, ops[j]? = some oj ∧ ∃ e ∈ oj.after, Region.binds md e = true ∧ e.on ∈ D) (hT : ∀ (l : Array Bool) j, (∀ d ∈ D, E d = true → l.getD d true = false) → j ∉ D → ∀ w, T l j w → S w) (hE : E i = false) (hTi : ∀ l j w, T (l.setIfInBounds i true) j w → T l j w) :
    ∀ (fuel : Nat) (listed : Array Bool) (a : Act) (w : World), (∀ j ∈ D, listed.getD j true = false) → i ∈ D →
      (∀ j oj, ops[j]? = some oj → j ∉ D → listed.getD j true = false → oi.apart ops oj = true) →
      i ∈ Region.ready md ops listed → YieldsIf P ops S oi v a → S w →
      wpAnyT P md ops Q T fuel (listed.setIfInBounds i true) (a.put oi.dst v) w → wpAnyT P md ops Q T (fuel + 1) listed a w := by
  intro fuel
  induction fuel with
  | zero =>
    intro listed a w hun hiD hfree hr hy hS H
    refine ⟨fun h => (by rw [h] at hr; cases hr), fun j hj => ?_⟩
    by_cases hji : j = i
    · subst hji; exact hy.wpOp hi hS ⟨.inl rfl, H⟩
    · have := ready_mono hj hji
      rw [H.1] at this
      cases this
  | succ fuel ih =>
    intro listed a w hun hiD hfree hr hy hS H
    refine ⟨fun h => (by rw [h] at hr; cases hr), fun j hj => ?_⟩
    by_cases hji : j = i
    · subst hji; exact hy.wpOp hi hS ⟨.inl rfl, H⟩
    · have h1 := H.2 j (ready_mono hj hji)
      obtain ⟨hjun, oj, hoj, hall⟩ := mem_ready.1 hj
      have hjD : j ∉ D := fun hjD => by
        obtain ⟨o', ho', e, he, hb, hon⟩ := hD j hjD hji
        have : o' = oj := Option.some.inj (ho'.symm.trans hoj)
        subst this
        have h1 := hall e he hb
        have h0 := hun _ hon
        rcases Nat.lt_or_ge e.on listed.size with h' | h'
        · simp [h'] at h0 h1; rw [h0] at h1; cases h1
        · simp [Array.getElem?_eq_none h'] at h1
      have h2 := wpOp_putIf hoj (hfree j oj hoj hjD hjun) (fun cs b => hsel i oi cs b hi) (fun cs b => hsel j oj cs b hoj) hQ hy h1
      have hfree' : ∀ k ok, ops[k]? = some ok → k ∉ D → (listed.setIfInBounds j true).getD k true = false → oi.apart ops ok = true := fun k ok hk hkD hun' => by
        refine hfree k ok hk hkD ?_
        by_cases hjk : j = k
        · subst hjk; exact hjun
        · rw [getD_set_ne true hjk] at hun'; exact hun'
      have hun' : ∀ k ∈ D, (listed.setIfInBounds j true).getD k true = false := fun k hk => by
        have hne : j ≠ k := fun h => hjD (by rw [h]; exact hk)
        rw [getD_set_ne true hne]
        exact hun k hk
      refine wpOp_mono (fun a' w' h3 => ⟨h3.2.1.imp id (hTi listed j w'), ih (listed.setIfInBounds j true) a' w' hun' hiD hfree' (ready_mono hr (Ne.symm hji)) h3.1 ?_ ?_⟩) h2
      · rcases h3.2.1 with h | h
        · rw [h]; exact hS
        · refine hT (listed.setIfInBounds i true) j (fun d hd he => ?_) hjD w' h
          have hne : i ≠ d := fun e => by rw [e, he] at hE; cases hE
          rw [getD_set_ne true hne]
          exact hun d hd
      · rw [Array.setIfInBounds_comm _ _ hji]
        exact h3.2.2
end

/-! ### The plan of a region -/
section
variable (md : Region.Mode) (ops : Array Oper)
def DT.heads : DT → List Nat
  | .eff _ i _ => [i]
  | .both a b => a.heads ++ b.heads
  | _ => []
def coversB (l : Array Bool) (h : List Nat) : Bool := !(Region.ready md ops l).isEmpty && (Region.ready md ops l).all h.contains
def takeOK (l : Array Bool) (i : Nat) (deps : List Nat) : Bool :=
  (Region.ready md ops l).contains i && deps.contains i &&
  deps.all (fun j => !l.getD j true && (j == i || (match ops[j]? with | some oj => oj.after.any (fun e => Region.binds md e && deps.contains e.on) | none => false))) &&
  (match ops[i]? with
  | some oi => (List.range ops.size).all fun j => deps.contains j || l.getD j true || (match ops[j]? with | some oj => oi.apart ops oj | none => true)
  | none => false)
def dtOK : DT → Bool → Nat → Array Bool → Bool
  | .done, top, _, l => top && (Region.ready md ops l).isEmpty
  | .take i deps r, top, f + 1, l => top && takeOK md ops l i deps && dtOK r true f (l.setIfInBounds i true)
  | .eff _ i r, top, f + 1, l => (!top || coversB md ops l [i]) && decide (i < ops.size) && dtOK r true f (l.setIfInBounds i true)
  | .both a b, top, f + 1, l => (!top || coversB md ops l ((DT.both a b).heads)) && dtOK a false (f + 1) l && dtOK b false (f + 1) l
  | _, _, 0, _ => false
end

/-! ### Quiet operations: what was there stays -/
def roE : Ent → Ent
  | .gone => .gone
  | .cells e vs => .rcells e vs
  | .row _ e ck rows => .row false e ck rows
  | .rcells e vs => .rcells e vs
  | .sub _ N => .sub false N
def roL : List Ent → (List Ent → Prop) → Prop
  | [], K => K []
  | e :: r, K => match e with
    | .gone => roL r fun l => K (.gone :: l)
    | .cells t vs => roL r fun l => K (.rcells t vs :: l)
    | .row _ t ck rows => roL r fun l => K (.row false t ck rows :: l)
    | .rcells t vs => roL r fun l => K (.rcells t vs :: l)
    | .sub _ N => roL r fun l => K (.sub false N :: l)
def elist : List Ent → (List Ent → Prop) → Prop
  | [], K => K []
  | e :: r, K => elist r fun r' => K (e :: r')
def eapp : List Ent → List Ent → (List Ent → Prop) → Prop
  | [], l, K => elist l K
  | e :: r, l, K => eapp r l fun l' => K (e :: l')
def newOK : List Ent → Bool
  | [] => true
  | .cells _ _ :: r => newOK r
  | .row true _ _ _ :: r => newOK r
  | .sub true _ :: r => newOK r
  | .gone :: r => newOK r
  | _ :: _ => false
theorem roL_eq : ∀ (l : List Ent) (K : List Ent → Prop), roL l K = K (l.map roE)
  | [], _ => rfl
  | e :: r, K => by cases e <;> simp [roL, roE, roL_eq r]
theorem elist_eq : ∀ (a : List Ent) (K : List Ent → Prop), elist a K = K a
  | [], _ => rfl
  | e :: r, K => by simp [elist, elist_eq r]
theorem eapp_eq : ∀ (a b : List Ent) (K : List Ent → Prop), eapp a b K = K (a ++ b)
  | [], b, K => by simp [eapp, elist_eq]
  | e :: r, b, K => by simp [eapp, eapp_eq r]
def vQuiet (f : List Ent → HL → (SV → List Ent → HL → Prop) → Prop) (hp : List Ent) (M : HL) (K : SV → List Ent → HL → Prop) : Prop :=
  ∀ Mr, FLe M Mr → roL hp fun hpr => f hpr Mr fun v hp' _ => match newOK (dropN hp' (llen hp)) with
    | true => eapp hp (dropN hp' (llen hp)) fun hp2 => K v hp2 M
    | false => False

/-- The heap of a world. -/
def heapL (w : World) : HL := fun b => w.heap[b]?
/-- Every block stays as it is. -/
def Keeps (w w' : World) : Prop := ∀ (b : Nat) (o : Obj), w.heap[b]? = some o → w'.heap[b]? = some o
theorem heap_alloc_keeps (w : World) (ob : Obj) : Keeps w (w.alloc ob) := fun b o h => by
  have hb := (Array.getElem?_eq_some_iff.1 h).1
  unfold World.alloc
  simp only []
  rw [Array.getElem?_push, if_neg (by omega)]
  exact h
theorem Keeps.refl (w : World) : Keeps w w := fun _ _ h => h

theorem Holds.quiet {ρ : Nat → Loc} {hp : List Ent} {M F : HL} {w : World} (H : Holds ρ hp M F w) : Holds ρ (hp.map roE) (heapL w) (heapL w) w := by
  have hno : ∀ n b, ¬ owns ρ (hp.map roE) n b := by
    rintro n b ⟨e, _, _, h1, h2, _⟩
    rw [List.getElem?_map] at h1
    obtain ⟨e0, _, rfl⟩ := Option.map_eq_some_iff.1 h1
    cases e0 <;> cases h2
  refine ⟨fun n e he => ?_, fun n m b h => absurd h (hno n b), fun n b h => absurd h (hno n b), fun _ _ h => h, fun _ _ h => h, fun n hn => H.dom n (by simpa using hn)⟩
  rw [List.getElem?_map] at he
  obtain ⟨e0, h0, rfl⟩ := Option.map_eq_some_iff.1 he
  have hE := H.ent n e0 h0
  have hM : ∀ b o, M b = some o → heapL w b = some o := fun b o h => H.frm _ _ (H.sub _ _ h)
  cases e0 with
  | gone => trivial
  | cells e vs =>
    obtain ⟨b, cap, cs, h1, h2, h3⟩ := hE
    exact ⟨b, cap, cs, (0, 0), h1, h2, h3⟩
  | rcells e vs =>
    obtain ⟨b, cap, cs, fr, h1, h2, h3⟩ := hE
    exact ⟨b, cap, cs, fr, h1, hM _ _ h2, h3⟩
  | sub own N =>
    intro b o hN
    obtain ⟨h1, h2⟩ := hE b o hN
    refine ⟨h1, ?_⟩
    cases own with
    | true => exact h2
    | false => exact hM _ _ h2
  | row own e ck rows =>
    simp only [roE, EntOK] at hE ⊢
    refine ⟨hE.1, ?_⟩
    cases hρ : ρ n with
    | none => rw [hρ] at hE; exact hE.2
    | some l =>
      obtain ⟨b, base, cap⟩ := l
      rw [hρ] at hE
      obtain ⟨_, cur, fr, h1, h2, h3⟩ := hE
      cases own with
      | true =>
        simp only [if_true] at h1
        exact ⟨cur, (0, 0), h1.1, h2, h3⟩
      | false =>
        simp only [Bool.false_eq_true, if_false] at h1
        exact ⟨cur, fr, hM _ _ h1, h2, h3⟩

theorem newOK_spec : ∀ {l : List Ent}, newOK l = true → ∀ (n : Nat) (e : Ent), l[n]? = some e → (∀ t vs, e ≠ .rcells t vs) ∧ (∀ t ck rows, e ≠ .row false t ck rows) ∧ ∀ N, e ≠ .sub false N
  | [], _, n, e, h => by simp at h
  | a :: r, hn, 0, e, h => by
    simp at h
    subst h
    cases a with
    | gone => simp
    | cells => simp
    | rcells => simp [newOK] at hn
    | sub own => cases own <;> simp [newOK] at hn ⊢
    | row own => cases own <;> simp [newOK] at hn ⊢
  | a :: r, hn, n + 1, e, h => by
    refine newOK_spec (l := r) ?_ n e (by simpa using h)
    cases a with
    | gone => exact hn
    | cells => exact hn
    | rcells => simp [newOK] at hn
    | sub own => cases own <;> simp [newOK] at hn ⊢; exact hn
    | row own => cases own <;> simp [newOK] at hn ⊢; exact hn

theorem Holds.unquiet {ρ ρ' : Nat → Loc} {hp hp' : List Ent} {M F M' F' : HL} {w w' : World} (H : Holds ρ hp M F w) (hk : hp.length ≤ hp'.length) (hx : Ext hp.length ρ ρ') (H' : Holds ρ' hp' M' F' w') (hF : FLe (heapL w) F')
    (hn : newOK (hp'.drop hp.length) = true) : Holds ρ' (hp ++ hp'.drop hp.length) M F w' ∧ Keeps w w' := by
  have hkeep : Keeps w w' := fun b o h => H'.frm _ _ (hF _ _ h)
  have hle := H.le hx
  have old : ∀ n e, n < hp.length → (hp ++ hp'.drop hp.length)[n]? = some e → hp[n]? = some e := fun n e hn he => by rwa [List.getElem?_append_left hn] at he
  have new : ∀ n e, hp.length ≤ n → (hp ++ hp'.drop hp.length)[n]? = some e → hp'[n]? = some e ∧ (hp'.drop hp.length)[n - hp.length]? = some e := fun n e hn he => by
    rw [List.getElem?_append_right hn] at he
    refine ⟨?_, he⟩
    rw [List.getElem?_drop, show hp.length + (n - hp.length) = n by omega] at he
    exact he
  have hcase : ∀ n b, owns ρ' (hp ++ hp'.drop hp.length) n b → (n < hp.length ∧ owns ρ hp n b) ∨ (hp.length ≤ n ∧ owns ρ' hp' n b) := by
    rintro n b ⟨e, ba, ca, h1, h2, h3⟩
    rcases Nat.lt_or_ge n hp.length with h | h
    · exact .inl ⟨h, e, ba, ca, old n e h h1, h2, by rw [← hx n h]; exact h3⟩
    · exact .inr ⟨h, e, ba, ca, (new n e h h1).1, h2, h3⟩
  have hno : ∀ n m b, owns ρ hp n b → owns ρ' hp' m b → False := fun n m b h1 h2 => by
    have hb := owns_lt H h1
    have h3 := hF b _ (show heapL w b = some _ from Array.getElem?_eq_getElem hb)
    rw [H'.out m b h2] at h3
    cases h3
  refine ⟨⟨fun n e he => ?_, fun n m b h1 h2 => ?_, fun n b h => ?_, fun k o h => hkeep _ _ (H.frm _ _ h), H.sub, fun n hn => H'.dom n (by simp at hn; omega)⟩, hkeep⟩
  · rcases Nat.lt_or_ge n hp.length with h | h
    · refine (H.ent n e (old n e h he)).keep hle (hx n h) (FLe.refl M) fun b ba ca h2 h3 => ?_
      have hb := owns_lt H ⟨e, ba, ca, old n e h he, h2, h3⟩
      rw [hkeep b _ (Array.getElem?_eq_getElem hb), Array.getElem?_eq_getElem hb]
    · obtain ⟨h1, h2⟩ := new n e h he
      have hE := H'.ent n e h1
      have h3 := newOK_spec hn _ _ h2
      cases e with
      | gone => trivial
      | cells e vs => exact hE
      | rcells e vs => exact absurd rfl (h3.1 _ _)
      | sub own N =>
        cases own with
        | false => exact absurd rfl (h3.2.2 _)
        | true => exact hE
      | row own e ck rows =>
        cases own with
        | false => exact absurd rfl (h3.2.1 _ _ _)
        | true => exact hE
  · rcases hcase n b h1 with ⟨ha, h1⟩ | ⟨ha, h1⟩ <;> rcases hcase m b h2 with ⟨hb, h2⟩ | ⟨hb, h2⟩
    · exact H.sep n m b h1 h2
    · exact (hno _ _ _ h1 h2).elim
    · exact (hno _ _ _ h2 h1).elim
    · exact H'.sep n m b h1 h2
  · rcases hcase n b h with ⟨ha, h1⟩ | ⟨ha, h1⟩
    · exact H.out n b h1
    · cases hFb : F b with
      | none => rfl
      | some o =>
        have := hF b o (H.frm _ _ hFb)
        rw [H'.out n b h1] at this
        cases this

/-! ### What was loaded ahead of its turn -/
mutual
/-- The same value, and no other one. -/
def rig : SV → SV → Prop → Prop
  | .v x, s, K => match s with | .v y => x = y ∧ K | _ => False
  | .ptr n w i f, s, K => match s with
    | .ptr n' w' i' f' => match Nat.beq n n', Nat.beq w w', Nat.beq f f' with
      | true, true, true => i = i' ∧ K
      | _, _, _ => False
    | _ => False
  | .agg l, s, K => match s with | .agg r => rigL l r K | _ => False
  | .ifc t x, s, K => match s with
    | .ifc t' y => match Nat.beq t t' with | true => rig x y K | false => False
    | _ => False
  | .rsl y, s, K => match s with | .rsl y' => y = y' ∧ K | _ => False
  | .rpt y w i f, s, K => match s with
    | .rpt y' w' i' f' => match Nat.beq w w', Nat.beq f f' with
      | true, true => y = y' ∧ i = i' ∧ K
      | _, _ => False
    | _ => False
  | .via _ x, s, K => match s with | .via _ x' => x = x' ∧ K | _ => False
  | _, _, _ => False
def rigL : List SV → List SV → Prop → Prop
  | [], [], K => K
  | x :: l, y :: r, K => rig x y (rigL l r K)
  | _, _, _ => False
end
mutual
theorem rig_spec {ρ ρ' : Nat → Loc} (hle : Le ρ ρ') : ∀ (s s' : SV) (K : Prop), rig s s' K → ∀ y y', Den ρ s y → Den ρ' s' y' → K ∧ y = y'
  | .v x, s', K, h, y, y', hd, hd' => by
    unfold rig at h
    split at h
    · obtain ⟨rfl, h⟩ := h
      simp only [Den] at hd hd'
      exact ⟨h, hd.symm.trans hd'⟩
    · exact h.elim
  | .ptr n w i f, s', K, h, y, y', hd, hd' => by
    unfold rig at h
    split at h
    · split at h
      · rename_i h1 h2 h3
        have h1 := Nat.eq_of_beq_eq_true h1
        have h2 := Nat.eq_of_beq_eq_true h2
        have h3 := Nat.eq_of_beq_eq_true h3
        subst h1; subst h2; subst h3
        obtain ⟨rfl, h⟩ := h
        simp only [Den] at hd hd'
        obtain ⟨b, base, cap, h4, rfl⟩ := hd
        obtain ⟨b', base', cap', h5, rfl⟩ := hd'
        rw [hle _ _ h4] at h5
        cases h5
        exact ⟨h, rfl⟩
      · exact h.elim
    · exact h.elim
  | .agg l, s', K, h, y, y', hd, hd' => by
    unfold rig at h
    split at h
    · simp only [Den] at hd hd'
      obtain ⟨cs, rfl, hd⟩ := hd
      obtain ⟨cs', rfl, hd'⟩ := hd'
      obtain ⟨h1, rfl⟩ := rigL_spec hle l _ K h cs cs' hd hd'
      exact ⟨h1, rfl⟩
    · exact h.elim
  | .ifc t x, s', K, h, y, y', hd, hd' => by
    unfold rig at h
    split at h
    · split at h
      · rename_i h1
        have h1 := Nat.eq_of_beq_eq_true h1
        subst h1
        simp only [Den] at hd hd'
        obtain ⟨z, rfl, hd⟩ := hd
        obtain ⟨z', rfl, hd'⟩ := hd'
        obtain ⟨h1, rfl⟩ := rig_spec hle x _ K h z z' hd hd'
        exact ⟨h1, rfl⟩
      · exact h.elim
    · exact h.elim
  | .rsl z, s', K, h, y, y', hd, hd' => by
    unfold rig at h
    split at h
    · obtain ⟨rfl, h⟩ := h
      simp only [Den] at hd hd'
      exact ⟨h, hd.1.trans hd'.1.symm⟩
    · exact h.elim
  | .rpt z w i f, s', K, h, y, y', hd, hd' => by
    unfold rig at h
    split at h
    · split at h
      · rename_i h1 h2
        have h1 := Nat.eq_of_beq_eq_true h1
        have h2 := Nat.eq_of_beq_eq_true h2
        subst h1; subst h2
        obtain ⟨rfl, rfl, h⟩ := h
        simp only [Den] at hd hd'
        obtain ⟨a, n, c, rfl, rfl⟩ := hd
        obtain ⟨a', n', c', h4, rfl⟩ := hd'
        cases h4
        exact ⟨h, rfl⟩
      · exact h.elim
    · exact h.elim
  | .via n x, s', K, h, y, y', hd, hd' => by
    unfold rig at h
    split at h
    · obtain ⟨rfl, h⟩ := h
      simp only [Den] at hd hd'
      exact ⟨h, hd.symm.trans hd'⟩
    · exact h.elim
  | .slc .., _, _, h, _, _, _, _ => by unfold rig at h; exact h.elim
  | .slx .., _, _, h, _, _, _, _ => by unfold rig at h; exact h.elim
  | .emp, _, _, h, _, _, _, _ => by unfold rig at h; exact h.elim
  | .tup _, _, _, h, _, _, _, _ => by unfold rig at h; exact h.elim
  | .fn .., _, _, h, _, _, _, _ => by unfold rig at h; exact h.elim
  | .any, _, _, h, _, _, _, _ => by unfold rig at h; exact h.elim
theorem rigL_spec {ρ ρ' : Nat → Loc} (hle : Le ρ ρ') : ∀ (s s' : List SV) (K : Prop), rigL s s' K → ∀ y y', DenL ρ s y → DenL ρ' s' y' → K ∧ y = y'
  | [], [], K, h, [], [], _, _ => ⟨by simpa [rigL] using h, rfl⟩
  | x :: l, x' :: r, K, h, y :: ys, y' :: ys', hd, hd' => by
    simp only [DenL] at hd hd'
    unfold rigL at h
    obtain ⟨h1, rfl⟩ := rig_spec hle x x' _ h y y' hd.1 hd'.1
    obtain ⟨h2, rfl⟩ := rigL_spec hle l r K h1 ys ys' hd.2 hd'.2
    exact ⟨h2, rfl⟩
  | [], _ :: _, _, h, _, _, _, _ => by simp [rigL] at h
  | _ :: _, [], _, h, _, _, _, _ => by simp [rigL] at h
  | [], [], _, _, _ :: _, _, hd, _ => by simp [DenL] at hd
  | [], [], _, _, [], _ :: _, _, hd => by simp [DenL] at hd
  | _ :: _, _ :: _, _, _, [], _, hd, _ => by simp [DenL] at hd
  | _ :: _, _ :: _, _, _, _ :: _, [], _, hd => by simp [DenL] at hd
end
end Go.Vc
/-
  Symbolic execution, part L: code ('vc'): branches, blocks, loops with an invariant.
-/
namespace Go.Vc

def putS (d : Option Nat) (v : SV) (tm : List SV) (K : List SV → Prop) : Prop :=
  match d with
  | some d => sset v tm d K
  | none => K tm
theorem putS_den {ρ : Nat → Loc} {d : Option Nat} {v : SV} {tm : List SV} {K : List SV → Prop} (h : putS d v tm K) {a : Act} {y : Value} (hD : DenL ρ tm a.tmps.toList) (hv : Den ρ v y) : ∃ tm', K tm' ∧ DenL ρ tm' (a.put d y).tmps.toList := by
  cases d with
  | none => exact ⟨tm, h, hD⟩
  | some d =>
    simp only [putS] at h
    rw [sset_iff] at h
    exact ⟨_, h, by simpa [Act.put] using hD.set hv d⟩

/-- An operation's guard: what the slot holds is made known on each way. -/
def gate (g : Option (Nat × Bool)) (tm : List SV) (A B : List SV → Prop) : Prop :=
  match g with
  | none => A tm
  | some (t, want) => match sget tm t with
    | .v (.bool b) => match want with
      | true => Cnd b (sset (.v (.bool true)) tm t A) (sset (.v (.bool false)) tm t B)
      | false => Cnd b (sset (.v (.bool true)) tm t B) (sset (.v (.bool false)) tm t A)
    | .v (.tuple _) => B tm
    | _ => False

abbrev OK := List SV → List Ent → HL → Prop
def opsNil : List SV → List Ent → HL → OK → Prop := fun tm hp M K => K tm hp M
def opsCons (Γ : Nat → Option Trans) (o : PO) (_ : List PO) (ih : List SV → List Ent → HL → OK → Prop) : List SV → List Ent → HL → OK → Prop := fun tm hp M K =>
  gate o.guard tm
    (fun tm => vcOp Γ o.op tm hp M fun v hp' M' => putS o.dst v tm fun tm' => ih tm' hp' M' K)
    (fun tm => putS o.dst (.v undef) tm fun tm' => ih tm' hp M K)
/-- (By the recursor: so that the kernel reduces it as the elaborator does.) -/
noncomputable def vcOps (Γ : Nat → Option Trans) (l : List PO) : List SV → List Ent → HL → OK → Prop :=
  List.rec (motive := fun _ => List SV → List Ent → HL → OK → Prop) opsNil (opsCons Γ) l

/-! ### Regions whose order is drawn -/
inductive Mk where
  | live (deps : List Nat) (s : Option Nat) (ad v : SV)
  | dead (deps : List Nat)
def memN (i : Nat) : List Nat → Bool
  | [] => false
  | j :: r => match Nat.beq i j with
    | true => true
    | false => memN i r
def vMarks (i : Nat) (hp : List Ent) (M : HL) : List Mk → (List Mk → Prop) → Prop
  | [], K => K []
  | .live d s ad v :: r, K => match memN i d with
    | true => vMarks i hp M r fun l => K (.dead d :: l)
    | false => vLoad s ad hp M fun v' => rig v v' (vMarks i hp M r fun l => K (.live d s ad v :: l))
  | .dead d :: r, K => vMarks i hp M r fun l => K (.dead d :: l)
def getO : List PO → Nat → Option PO
  | [], _ => none
  | o :: _, 0 => some o
  | _ :: r, n + 1 => getO r n
abbrev DRun := List Mk → List SV → List Ent → HL → OK → Prop
def dDone : DRun := fun _ tm hp M K => K tm hp M
/-- Neither a load nor pure: it may change the world. -/
def isE (o : POp) : Bool := match o with
  | .load .. => false
  | op => !pureO op
def dTake (Γ : Nat → Option Trans) (ops : List PO) (i : Nat) (deps : List Nat) (_ : DT) (ih : DRun) : DRun := fun marks tm hp M K =>
  match getO ops i with
  | none => False
  | some o => match isE o.op with
   | true => False
   | false => gate o.guard tm
    (fun tm => match o.op with
      | .load s x => force (ev tm x) fun ad => vLoad s ad hp M fun v => putS o.dst v tm fun tm' => ih (.live deps s ad v :: marks) tm' hp M K
      | op => match pureO op with
        | true => vcOp Γ op tm hp M fun v _ _ => putS o.dst v tm fun tm' => ih marks tm' hp M K
        | false => False)
    (fun tm => putS o.dst (.v undef) tm fun tm' => ih marks tm' hp M K)
def isBs : POp → Bool
  | .bslice .. => true
  | _ => false
def dEff (Γ : Nat → Option Trans) (ops : List PO) (q : Bool) (i : Nat) (_ : DT) (ih : DRun) : DRun := fun marks tm hp M K =>
  match getO ops i with
  | none => False
  | some o => gate o.guard tm
    (fun tm => match o.op with
      | .load s x => force (ev tm x) fun ad => vLoad s ad hp M fun v => putS o.dst v tm fun tm' => ih marks tm' hp M K
      | op => match pureO op with
        | true => vcOp Γ op tm hp M fun v _ _ => putS o.dst v tm fun tm' => ih marks tm' hp M K
        | false => match q with
          | true => match isBs op with
            | true => vcOp Γ op tm hp M fun v hp' M' => putS o.dst v tm fun tm' => ih marks tm' hp' M' K
            | false => vQuiet (fun hp M K => vcOp Γ op tm hp M K) hp M fun v hp' M' => putS o.dst v tm fun tm' => ih marks tm' hp' M' K
          | false => vcOp Γ op tm hp M fun v hp' M' => vMarks i hp' M' marks fun marks' => putS o.dst v tm fun tm' => ih marks' tm' hp' M' K)
    (fun tm => putS o.dst (.v undef) tm fun tm' => ih marks tm' hp M K)
def dBoth (_ _ : DT) (ia ib : DRun) : DRun := fun marks tm hp M K => ia marks tm hp M K ∧ ib marks tm hp M K
noncomputable def vDT (Γ : Nat → Option Trans) (ops : List PO) (d : DT) : DRun :=
  DT.rec (motive := fun _ => DRun) dDone (dTake Γ ops) (dEff Γ ops) dBoth d

inductive Ex where
  | normal | exit (id : Nat) | ret

/-! ### Weakening: other names, forgotten slots -/
def nget : List Nat → Nat → Nat
  | [], _ => 0
  | s :: _, 0 => s
  | _ :: r, n + 1 => nget r n
def vEqV (x y : Value) (K : Prop) : Prop :=
  match x, y with
  | .int k a, .int k' b => match kEq k k' with
    | true => a = b ∧ K
    | false => False
  | .bool a, .bool b => a = b ∧ K
  | x, y => x = y ∧ K
mutual
/-- What the slot 's' holds is of the form 's'' (names by 'm': new to old). -/
def sle (m : List Nat) : SV → SV → Prop → Prop
  | _, .any, K => K
  | s, .v y, K => match s with
    | .v x => vEqV x y K
    | _ => False
  | s, .ptr n' w' i' f', K => match s with
    | .ptr n w i f => match Nat.beq (nget m n') n, Nat.blt n' (llen m), Nat.beq w w', Nat.beq f f' with
      | true, true, true, true => i = i' ∧ K
      | _, _, _, _ => False
    | _ => False
  | s, .slc n' w' i' len', K => match isNilS s with
    | true => len' = 0 ∧ K
    | false => match s with
      | .slc n w i len => match Nat.beq (nget m n') n, Nat.blt n' (llen m), Nat.beq w w' with
        | true, true, true => i = i' ∧ len = len' ∧ K
        | _, _, _ => False
      | _ => False
  | s, .emp, K => match isNilS s with
    | true => K
    | false => False
  | s, .agg l', K => match s with
    | .agg l => sleL m l l' K
    | _ => False
  | s, .tup l', K => match s with
    | .tup l => sleL m l l' K
    | _ => False
  | s, .fn f' a' b', K => match s with
    | .fn f a b => f = f' ∧ sleL m a a' (sleL m b b' K)
    | _ => False
  | s, .ifc t' x', K => match s with
    | .ifc t x => match Nat.beq t t' with
      | true => sle m x x' K
      | false => False
    | _ => False
  | s, .rsl y', K => match s with
    | .rsl y => y = y' ∧ K
    | _ => False
  | s, .slx n' w' len' c', K => match s with
    | .slx n w len c => match Nat.beq (nget m n') n, Nat.blt n' (llen m), Nat.beq w w' with
      | true, true, true => len = len' ∧ c = c' ∧ K
      | _, _, _ => False
    | _ => False
  | s, .rpt y' w' i' f', K => match s with
    | .rpt y w i f => match Nat.beq w w', Nat.beq f f' with
      | true, true => y = y' ∧ i = i' ∧ K
      | _, _ => False
    | _ => False
  | s, .via n' x', K => match s with
    | .via n x => match Nat.beq (nget m n') n, Nat.blt n' (llen m) with
      | true, true => x = x' ∧ K
      | _, _ => False
    | _ => False
def sleL (m : List Nat) : List SV → List SV → Prop → Prop
  | l, [], K => match l with
    | [] => K
    | _ :: _ => False
  | l, s' :: r', K => match l with
    | s :: r => sle m s s' (sleL m r r' K)
    | [] => False
end
def ckEq : CK → CK → Bool
  | .int k, .int k' => kEq k k'
  | .bool, .bool => true
  | .raw, .raw => true
  | .sl, .sl => true
  | _, _ => false
def ckEqL : List CK → List CK → Bool
  | [], [] => true
  | a :: l, b :: r => match ckEq a b with | true => ckEqL l r | false => false
  | _, _ => false
def bEq : Bool → Bool → Bool
  | true, true => true
  | false, false => true
  | _, _ => false
def ele (m : List Nat) (fresh : Bool) (e e' : Ent) (K : Prop) : Prop :=
  match e' with
  | .gone => K
  | .cells t' vs' => match e with
    | .cells t vs => match Nat.beq t t' with
      | true => sleL m vs vs' K
      | false => False
    | _ => False
  | .rcells t' vs' => match e with
    | .rcells t vs => match Nat.beq t t' with
      | true => sleL m vs vs' K
      | false => False
    | _ => False
  | .row o' t' ck' rows' => match fresh with
    | true => match ck' with
      | [] => False
      | _ :: _ => rows' = [] ∧ K
    | false => match e with
      | .row o t ck rows => match ckEqL ck ck' with
        | true => o = o' ∧ t = t' ∧ rows = rows' ∧ K
        | false => False
      | _ => False
  | .sub o' N' => match fresh with
    | true => (∀ b, N' b = none) ∧ K
    | false => match e with
      | .sub o N => o = o' ∧ N = N' ∧ K
      | _ => False
/-- Each entry, by its old name. -/
def eleL (m : List Nat) (hp : List Ent) : List Nat → List Ent → Prop → Prop
  | [], [], K => K
  | o :: ms, e' :: r, K => ele m (Nat.ble (llen hp) o) (eget hp o) e' (eleL m hp ms r K)
  | _, _, _ => False
def notin (n x : Nat) : List Nat → Bool
  | [] => true
  | y :: r => match Nat.beq x y, Nat.blt x n with
    | true, true => false
    | _, _ => notin n x r
/-- No old name twice (but those that stand for none). -/
def nodupB (n : Nat) : List Nat → Bool
  | [] => true
  | x :: r => match notin n x r with
    | true => nodupB n r
    | false => false
/-- The first k names are kept. -/
def idUpto : (k j : Nat) → List Nat → Bool
  | 0, _, _ => true
  | k + 1, j, x :: r => match Nat.beq x j with
    | true => idUpto k (j + 1) r
    | false => false
  | _ + 1, _, [] => false
def Wk (k0 : Nat) (m : List Nat) (tm : List SV) (hp : List Ent) (tm' : List SV) (hp' : List Ent) (K : Prop) : Prop :=
  match nodupB (llen hp) m, idUpto k0 0 m with
  | true, true => sleL m tm tm' (eleL m hp m hp' K)
  | _, _ => False

abbrev CK' := Ex → List SV → List Ent → HL → Prop
abbrev Run := List SV → List Ent → HL → CK' → Prop
def vSkip : Run := fun tm hp M K => K .normal tm hp M
def vRet : Run := fun tm hp M K => K .ret tm hp M
noncomputable def vReg (Γ : Nat → Option Trans) (draw : Bool) (l : List PO) (dt : DT) : Run := fun tm hp M K =>
  match draw with
  | false => vcOps Γ l tm hp M (K .normal)
  | true => vDT Γ l dt [] tm hp M (K .normal)
def vSeq (_ _ : PCode) (ia ib : Run) : Run := fun tm hp M K => ia tm hp M fun e tm' hp' M' => match e with
  | .normal => ib tm' hp' M' K
  | .exit id => K (.exit id) tm' hp' M'
  | .ret => K .ret tm' hp' M'
def vCond (c : PArg) (_ _ : PCode) (ia ib : Run) : Run := fun tm hp M K => match ev tm c with
  | .v (.bool t) => Cnd t (ia tm hp M K) (ib tm hp M K)
  | _ => False
def vBlock (id : Nat) (_ : PCode) (ic : Run) : Run := fun tm hp M K => ic tm hp M fun e tm' hp' M' => match e with
  | .normal => K .normal tm' hp' M'
  | .exit j => match Nat.beq j id with
    | true => K .normal tm' hp' M'
    | false => K (.exit j) tm' hp' M'
  | .ret => K .ret tm' hp' M'
def vLoop (k0 : Nat) (_ : PCode) (ic : Run) : Run := fun tm hp M K => ∃ I : Nat → List SV → List Ent → HL → Prop,
  (∃ n m tm' hp', Wk k0 m tm hp tm' hp' (I n tm' hp' M)) ∧
  ∀ Ko : CK', Ko = K → ∀ n tm1 hp1 M1, I n tm1 hp1 M1 → ic tm1 hp1 M1 fun e tm2 hp2 M2 => match e with
    | .normal => ∃ n' m tm3 hp3, n' < n ∧ Wk k0 m tm2 hp2 tm3 hp3 (I n' tm3 hp3 M2)
    | .exit id => Ko (.exit id) tm2 hp2 M2
    | .ret => Ko .ret tm2 hp2 M2
/-- The ways through a piece of code meet again behind it. -/
def vCut (k0 : Nat) (_ : PCode) (ic : Run) : Run := fun tm hp M K => ∃ I : List SV → List Ent → HL → Prop,
  (ic tm hp M fun e tm2 hp2 M2 => match e with
    | .normal => ∃ m tm3 hp3, Wk k0 m tm2 hp2 tm3 hp3 (I tm3 hp3 M2)
    | .exit id => K (.exit id) tm2 hp2 M2
    | .ret => K .ret tm2 hp2 M2) ∧
  ∀ tm1 hp1 M1, I tm1 hp1 M1 → K .normal tm1 hp1 M1
def vExit (id : Nat) : Run := fun tm hp M K => K (.exit id) tm hp M
def lookB (g : Nat) : List (Nat × Option Nat) → Option (Option Nat)
  | [] => none
  | (j, s) :: r => match Nat.beq g j with
    | true => some s
    | false => lookB g r
/-- A range over slices.Backward of a slice that an argument reaches: the elements from the last to the first; the function's slots stay as they are. -/
def vRange (k0 : Nat) (f : PArg) (bk : List (Nat × Option Nat)) (ps : List Nat) (_ _ : PCode) (iA iB : Nat → Run) : Run := fun tm hp M K =>
  match ev tm f with
  | .fn (.func g) [] [.ptr nb 0 0 0] => match lookB g bk with
    | some sz => ∃ (I : Nat → List SV → List Ent → HL → Prop) (eb : TypeId) (n w i len : Nat) (o : Bool) (e : TypeId) (ck : List CK) (rows : List (List Value)) (p1 p2 : Nat),
      hp[nb]? = some (.cells eb [.slc n w i len]) ∧ hp[n]? = some (.row o e ck rows) ∧ n < k0 ∧ ps = [p1, p2] ∧ w = sz.getD 1 ∧ len ≤ 1000000 ∧
      (∃ m tm' hp', Wk k0 m tm (hp.set nb .gone) tm' hp' (I len tm' hp' M)) ∧
      (∀ k, k < len → ∀ tm1 hp1 M1, I (k + 1) tm1 hp1 M1 → hp1[n]? = some (.row o e ck rows) ∧
        vLoad sz (.ptr n w (i + k) 0) hp1 M1 fun x => sset (.v (.int .i64 k)) tm1 p1 fun tm2 => sset x tm2 p2 fun tm3 =>
          iA (llen hp1) tm3 hp1 M1 fun ex tm4 hp4 M4 => match ex with
            | .normal => iB (llen hp1) tm4 hp4 M4 fun ex _ hp5 M5 => match ex with
              | .normal => ∃ m tm6 hp6, Wk k0 m tm1 hp5 tm6 hp6 (I k tm6 hp6 M5)
              | .exit id => K (.exit id) tm1 hp5 M5
              | .ret => K .ret tm1 hp5 M5
            | _ => False) ∧
      ∀ tm1 hp1 M1, I 0 tm1 hp1 M1 → K .normal tm1 hp1 M1
    | none => False
  | _ => False
noncomputable def vc (Γ : Nat → Option Trans) (k0 : Nat) (c : PCode) : Run :=
  PCode.rec (motive := fun _ => Nat → Run) (fun _ => vSkip) (fun _ => vRet) (fun d l dt _ => vReg Γ d l dt) (fun a b ia ib k => vSeq a b (ia k) (ib k)) (fun c a b ia ib k => vCond c a b (ia k) (ib k))
    (fun id c ic k => vBlock id c (ic k)) (fun c ic k => vLoop k c (ic k)) (fun id _ => vExit id) (fun f bk ps a b ia ib k => vRange k f bk ps a b ia ib) (fun _ _ _ _ _ _ => False) (fun c ic k => vCut k c (ic k)) c k0
end Go.Vc
/-
  Symbolic execution, part M: weakening is sound; code is sound (regions in the order of the text).
-/
namespace Go.Vc

theorem vEqV_spec {x y : Value} {K : Prop} (h : vEqV x y K) : x = y ∧ K := by
  unfold vEqV at h
  split at h
  · split at h
    · rename_i hk
      have := kEq_eq hk
      subst this
      exact ⟨by rw [h.1], h.2⟩
    · exact h.elim
  · exact ⟨by rw [h.1], h.2⟩
  · exact h

theorem nget_eq : ∀ {m : List Nat} {n : Nat}, n < m.length → m[n]? = some (nget m n)
  | _ :: _, 0, _ => rfl
  | _ :: r, n + 1, h => by simp [nget]; exact nget_eq (by simpa using h)
  | [], _, h => by simp at h

/-- The locations under the new names. -/
def ren (ρ : Nat → Loc) (m : List Nat) : Nat → Loc := fun j => match m[j]? with | some o => ρ o | none => none
theorem ren_at {ρ : Nat → Loc} {m : List Nat} {n n' : Nat} (h1 : Nat.beq (nget m n') n = true) (h2 : Nat.blt n' (llen m) = true) : ren ρ m n' = ρ n := by
  rw [llen_eq] at h2
  have h1 := Nat.eq_of_beq_eq_true h1
  have h2 : n' < m.length := by simpa [Nat.blt_eq] using h2
  simp [ren, nget_eq h2, h1]

mutual
theorem sle_spec {ρ : Nat → Loc} (m : List Nat) : ∀ (s s' : SV) (K : Prop), sle m s s' K → ∀ y, Den ρ s y → K ∧ Den (ren ρ m) s' y
  | s, .any, K, h, y, _ => ⟨by unfold sle at h; exact h, by simp [Den]⟩
  | s, .v x', K, h, y, hd => by
    unfold sle at h
    split at h
    · have := vEqV_spec h
      simp only [Den] at hd ⊢
      exact ⟨this.2, this.1 ▸ hd⟩
    · exact h.elim
  | s, .ptr n' w' i' f', K, h, y, hd => by
    unfold sle at h
    split at h
    · split at h
      · rename_i h1 h2 h3 h4
        have h3 := Nat.eq_of_beq_eq_true h3
        have h4 := Nat.eq_of_beq_eq_true h4
        subst h3; subst h4
        obtain ⟨rfl, h⟩ := h
        simp only [Den] at hd ⊢
        obtain ⟨b, base, cap, h5, h6⟩ := hd
        exact ⟨h, b, base, cap, (ren_at h1 h2).trans h5, h6⟩
      · exact h.elim
    · exact h.elim
  | s, .slc n' w' i' len', K, h, y, hd => by
    unfold sle at h
    split at h
    · rename_i hn
      obtain ⟨ad, rfl⟩ := isNilS_den hn hd
      obtain ⟨rfl, h⟩ := h
      exact ⟨h, ad, 0, rfl, Nat.le_refl _, .inl rfl⟩
    · split at h
      · split at h
        · rename_i h1 h2 h3
          have h3 := Nat.eq_of_beq_eq_true h3
          subst h3
          obtain ⟨rfl, rfl, h⟩ := h
          simp only [Den] at hd ⊢
          obtain ⟨a, c, h4, h5, h6⟩ := hd
          refine ⟨h, a, c, h4, h5, ?_⟩
          rcases h6 with h6 | ⟨b, base, cap, h7, h8⟩
          · exact .inl h6
          · exact .inr ⟨b, base, cap, (ren_at h1 h2).trans h7, h8⟩
        · exact h.elim
      · exact h.elim
  | s, .slx n' w' len' c', K, h, y, hd => by
    unfold sle at h
    split at h
    · split at h
      · rename_i h1 h2 h3
        obtain ⟨rfl, rfl, h⟩ := h
        simp only [Den] at hd ⊢
        obtain ⟨b, base, cap, h7, h8⟩ := hd
        exact ⟨h, b, base, cap, (ren_at h1 h2).trans h7, h8⟩
      · exact h.elim
    · exact h.elim
  | s, .emp, K, h, y, hd => by
    unfold sle at h
    split at h
    · rename_i hn
      obtain ⟨ad, rfl⟩ := isNilS_den hn hd
      exact ⟨h, ad, rfl⟩
    · exact h.elim
  | s, .agg l', K, h, y, hd => by
    unfold sle at h
    split at h
    · simp only [Den] at hd ⊢
      obtain ⟨cs, rfl, hd⟩ := hd
      obtain ⟨h1, h2⟩ := sleL_spec m _ l' K h cs hd
      exact ⟨h1, cs, rfl, h2⟩
    · exact h.elim
  | s, .tup l', K, h, y, hd => by
    unfold sle at h
    split at h
    · simp only [Den] at hd ⊢
      obtain ⟨cs, rfl, hd⟩ := hd
      obtain ⟨h1, h2⟩ := sleL_spec m _ l' K h cs hd
      exact ⟨h1, cs, rfl, h2⟩
    · exact h.elim
  | s, .fn f' a' b', K, h, y, hd => by
    unfold sle at h
    split at h
    · simp only [Den] at hd ⊢
      obtain ⟨x, z, rfl, hd1, hd2⟩ := hd
      obtain ⟨rfl, h⟩ := h
      obtain ⟨h1, h2⟩ := sleL_spec m _ a' _ h x hd1
      obtain ⟨h3, h4⟩ := sleL_spec m _ b' K h1 z hd2
      exact ⟨h3, x, z, rfl, h2, h4⟩
    · exact h.elim
  | s, .ifc t' x', K, h, y, hd => by
    unfold sle at h
    split at h
    · split at h
      · rename_i ht
        have ht := Nat.eq_of_beq_eq_true ht
        subst ht
        simp only [Den] at hd ⊢
        obtain ⟨z, rfl, hd⟩ := hd
        obtain ⟨h1, h2⟩ := sle_spec m _ x' K h z hd
        exact ⟨h1, z, rfl, h2⟩
      · exact h.elim
    · exact h.elim
  | s, .rsl y', K, h, y, hd => by
    unfold sle at h
    split at h
    · obtain ⟨rfl, h⟩ := h
      simp only [Den] at hd ⊢
      exact ⟨h, hd⟩
    · exact h.elim
  | s, .rpt y' w' i' f', K, h, y, hd => by
    unfold sle at h
    split at h
    · split at h
      · rename_i h1 h2
        have h1 := Nat.eq_of_beq_eq_true h1
        have h2 := Nat.eq_of_beq_eq_true h2
        subst h1; subst h2
        obtain ⟨rfl, rfl, h⟩ := h
        simp only [Den] at hd ⊢
        exact ⟨h, hd⟩
      · exact h.elim
    · exact h.elim
  | s, .via n' x', K, h, y, hd => by
    unfold sle at h
    split at h
    · split at h
      · obtain ⟨rfl, h⟩ := h
        simp only [Den] at hd ⊢
        exact ⟨h, hd⟩
      · exact h.elim
    · exact h.elim
theorem sleL_spec {ρ : Nat → Loc} (m : List Nat) : ∀ (s s' : List SV) (K : Prop), sleL m s s' K → ∀ y, DenL ρ s y → K ∧ DenL (ren ρ m) s' y
  | l, [], K, h, y, hd => by
    unfold sleL at h
    split at h
    · cases y with
      | nil => exact ⟨h, by simp [DenL]⟩
      | cons => simp [DenL] at hd
    · exact h.elim
  | l, s' :: r', K, h, y, hd => by
    unfold sleL at h
    split at h
    · cases y with
      | nil => simp [DenL] at hd
      | cons v vs =>
        simp only [DenL] at hd ⊢
        obtain ⟨h1, h2⟩ := sle_spec m _ s' _ h v hd.1
        obtain ⟨h3, h4⟩ := sleL_spec m _ r' K h1 vs hd.2
        exact ⟨h3, h2, h4⟩
    · exact h.elim
end

theorem ckEqL_eq : ∀ {a b : List CK}, ckEqL a b = true → a = b
  | [], [], _ => rfl
  | a :: l, b :: r, h => by
    simp only [ckEqL] at h
    cases hc : ckEq a b with
    | false => simp [hc] at h
    | true =>
      simp only [hc] at h
      rw [ckEqL_eq h]
      cases a <;> cases b <;> simp [ckEq] at hc
      · rw [kEq_eq hc]
      · rfl
      · rfl
      · rfl
  | [], _ :: _, h => by simp [ckEqL] at h
  | _ :: _, [], h => by simp [ckEqL] at h
theorem bEq_eq {a b : Bool} (h : bEq a b = true) : a = b := by cases a <;> cases b <;> simp [bEq] at h <;> rfl

theorem ele_spec {ρ : Nat → Loc} {hp : List Ent} {M F : HL} {w : World} (H : Holds ρ hp M F w) {m : List Nat} {o j : Nat} {e' : Ent} {K : Prop} (h : ele m (Nat.ble (llen hp) o) (eget hp o) e' K) (hj : m[j]? = some o) :
    K ∧ EntOK (ren ρ m) M w j e' ∧ (∀ b base cap, e'.own = true → Lies (ren ρ m j) e' b base cap → ∃ e, hp[o]? = some e ∧ e.own = true ∧ Lies (ρ o) e b base cap) := by
  have hr : ren ρ m j = ρ o := by simp [ren, hj]
  unfold ele at h
  split at h
  · exact ⟨h, trivial, fun _ _ _ h1 => by cases h1⟩
  · rename_i t' vs'
    split at h
    · rename_i t vs he
      have he := eget_ne he (by simp)
      split at h
      · rename_i ht
        have ht := Nat.eq_of_beq_eq_true ht
        subst ht
        obtain ⟨b, cap, cs, h1, h2, h3⟩ := H.ent o _ he
        obtain ⟨h4, h5⟩ := sleL_spec m _ _ _ h _ h3
        exact ⟨h4, ⟨b, cap, cs, hr.trans h1, h2, h5⟩, fun b' base' cap' _ h6 => ⟨_, he, rfl, by simp only [Lies] at h6 ⊢; rw [← hr]; exact h6⟩⟩
      · exact h.elim
    · exact h.elim
  · rename_i t' vs'
    split at h
    · rename_i t vs he
      have he := eget_ne he (by simp)
      split at h
      · rename_i ht
        have ht := Nat.eq_of_beq_eq_true ht
        subst ht
        obtain ⟨b, cap, cs, fr, h1, h2, h3⟩ := H.ent o _ he
        obtain ⟨h4, h5⟩ := sleL_spec m _ _ _ h _ h3
        exact ⟨h4, ⟨b, cap, cs, fr, hr.trans h1, h2, h5⟩, fun _ _ _ h6 => by cases h6⟩
      · exact h.elim
    · exact h.elim
  · rename_i o' t' ck' rows'
    split at h
    · rename_i hf
      rw [llen_eq] at hf
      have hf := Nat.le_of_ble_eq_true hf
      have hd := H.dom o hf
      split at h
      · exact h.elim
      · obtain ⟨rfl, h⟩ := h
        refine ⟨h, ?_, fun b base cap _ h6 => ?_⟩
        · simp only [EntOK, hr, hd]
          exact ⟨by simp, trivial⟩
        · simp only [Lies] at h6; rw [hr, hd] at h6; cases h6
    · split at h
      · rename_i own t ck rows he
        have he := eget_ne he (by simp)
        split at h
        · rename_i h3
          have h3 := ckEqL_eq h3
          subst h3
          obtain ⟨rfl, rfl, rfl, h⟩ := h
          have hE := H.ent o _ he
          refine ⟨h, ?_, fun b' base' cap' h5 h6 => ⟨_, he, h5, by simp only [Lies] at h6 ⊢; rw [← hr]; exact h6⟩⟩
          simp only [EntOK] at hE ⊢
          rw [hr]
          exact hE
        · exact h.elim
      · exact h.elim
  · rename_i o' N'
    split at h
    · obtain ⟨hN, h⟩ := h
      exact ⟨h, fun b o h1 => (by rw [hN] at h1; cases h1), fun b base cap _ h6 => by obtain ⟨o, h6⟩ := h6; rw [hN] at h6; cases h6⟩
    · split at h
      · rename_i own N he
        have he := eget_ne he (by simp)
        obtain ⟨rfl, rfl, h⟩ := h
        exact ⟨h, H.ent o _ he, fun b base cap h5 h6 => ⟨_, he, h5, h6⟩⟩
      · exact h.elim

theorem eleL_spec {ρ : Nat → Loc} {hp : List Ent} {M F : HL} {w : World} (H : Holds ρ hp M F w) {m : List Nat} : ∀ (ms : List Nat) (j : Nat) (hp' : List Ent) (K : Prop), (∀ i, ms[i]? = m[j + i]?) → eleL m hp ms hp' K →
    K ∧ hp'.length = ms.length ∧ ∀ i e', hp'[i]? = some e' → EntOK (ren ρ m) M w (j + i) e' ∧ (∀ b base cap, e'.own = true → Lies (ren ρ m (j + i)) e' b base cap → ∃ o e, m[j + i]? = some o ∧ hp[o]? = some e ∧ e.own = true ∧ Lies (ρ o) e b base cap)
  | [], j, [], K, hm, h => ⟨h, rfl, by simp⟩
  | o :: ms, j, e' :: r, K, hm, h => by
    simp only [eleL] at h
    have hj : m[j]? = some o := by have := hm 0; simpa using this.symm
    obtain ⟨h1, h2, h3⟩ := ele_spec H h hj
    obtain ⟨h4, h5, h6⟩ := eleL_spec H ms (j + 1) r K (fun i => by have := hm (i + 1); rw [show j + 1 + i = j + (i + 1) by omega]; simpa using this) h1
    refine ⟨h4, by simp [h5], fun i e hi => ?_⟩
    cases i with
    | zero =>
      simp at hi
      subst hi
      exact ⟨h2, fun b base cap hb1 hb2 => by obtain ⟨e, h7⟩ := h3 b base cap hb1 hb2; exact ⟨o, e, hj, h7⟩⟩
    | succ i =>
      have := h6 i e (by simpa using hi)
      rwa [show j + 1 + i = j + (i + 1) by omega] at this
  | [], j, _ :: _, K, hm, h => by simp [eleL] at h
  | _ :: _, j, [], K, hm, h => by simp [eleL] at h

theorem notin_spec {n x : Nat} : ∀ {l : List Nat}, notin n x l = true → x < n → x ∉ l
  | [], _, _ => by simp
  | y :: r, h, hx => by
    have hlt : Nat.blt x n = true := by simpa [Nat.blt_eq] using hx
    simp only [notin, hlt] at h
    split at h
    · cases h
    · rename_i hne
      have : Nat.beq x y = false := by
        cases hb : Nat.beq x y with
        | false => rfl
        | true => exact absurd rfl (hne hb)
      simp only [List.mem_cons, not_or]
      exact ⟨Nat.ne_of_beq_eq_false this, notin_spec h hx⟩
theorem nodupB_spec {n : Nat} : ∀ {l : List Nat}, nodupB n l = true → ∀ (i j x : Nat), l[i]? = some x → l[j]? = some x → x < n → i = j
  | [], _, i, j, x, hi, _, _ => by simp at hi
  | y :: r, h, i, j, x, hi, hj, hx => by
    simp only [nodupB] at h
    split at h
    case h_2 => cases h
    rename_i hn
    cases i with
    | zero => cases j with
      | zero => rfl
      | succ j =>
        simp at hi hj
        subst hi
        exact absurd (List.mem_of_getElem? hj) (notin_spec hn hx)
    | succ i => cases j with
      | zero =>
        simp at hi hj
        subst hj
        exact absurd (List.mem_of_getElem? hi) (notin_spec hn hx)
      | succ j => rw [nodupB_spec h i j x (by simpa using hi) (by simpa using hj) hx]
theorem idUpto_spec : ∀ {k j : Nat} {m : List Nat}, idUpto k j m = true → ∀ i, i < k → m[i]? = some (j + i)
  | 0, _, _, _, i, hi => by omega
  | k + 1, j, [], h, _, _ => by simp [idUpto] at h
  | k + 1, j, x :: r, h, i, hi => by
    simp only [idUpto] at h
    split at h
    case h_2 => cases h
    rename_i hx
    have hx := Nat.eq_of_beq_eq_true hx
    cases i with
    | zero => simp [hx]
    | succ i => 
      have := idUpto_spec h i (by omega)
      rw [show j + 1 + i = j + (i + 1) by omega] at this
      simpa using this

theorem Wk_spec {k0 : Nat} {m : List Nat} {tm tm' : List SV} {hp hp' : List Ent} {K : Prop} (h : Wk k0 m tm hp tm' hp' K) {ρ : Nat → Loc} {M F : HL} {w : World} (H : Holds ρ hp M F w) {ys : List Value} (hD : DenL ρ tm ys) :
    K ∧ ∃ ρ', Holds ρ' hp' M F w ∧ DenL ρ' tm' ys ∧ Ext k0 ρ ρ' ∧ k0 ≤ hp'.length := by
  unfold Wk at h
  split at h
  case h_2 => exact h.elim
  rename_i hnd hid
  rw [llen_eq] at hnd
  obtain ⟨h1, h2⟩ := sleL_spec m _ _ _ h _ hD
  obtain ⟨h3, h4, h5⟩ := eleL_spec H m 0 hp' K (fun i => by rw [Nat.zero_add]) h1
  have hid' := idUpto_spec hid
  have hown : ∀ n b, owns (ren ρ m) hp' n b → ∃ o, m[n]? = some o ∧ owns ρ hp o b := by
    rintro n b ⟨e, base, cap, ha, hb, hc⟩
    obtain ⟨_, h7⟩ := h5 n e ha
    rw [Nat.zero_add] at h7
    obtain ⟨o, e2, h8, h9, h10, h11⟩ := h7 b base cap hb hc
    exact ⟨o, h8, e2, base, cap, h9, h10, h11⟩
  refine ⟨h3, ren ρ m, ⟨fun n e hn => by have := (h5 n e hn).1; rwa [Nat.zero_add] at this, fun n k b hn hk => ?_, fun n b hn => ?_, H.frm, H.sub, fun n hn => ?_⟩, h2, fun n hn => ?_, ?_⟩
  · obtain ⟨o1, ho1, hw1⟩ := hown n b hn
    obtain ⟨o2, ho2, hw2⟩ := hown k b hk
    have := H.sep o1 o2 b hw1 hw2
    subst this
    obtain ⟨e, _, _, he, _⟩ := hw1
    exact nodupB_spec hnd n k o1 ho1 ho2 (List.getElem?_eq_some_iff.1 he).1
  · obtain ⟨o1, ho1, hw1⟩ := hown n b hn
    exact H.out o1 b hw1
  · simp [ren, List.getElem?_eq_none (show m.length ≤ n by omega)]
  · have := hid' n hn
    rw [Nat.zero_add] at this
    simp [ren, this]
  · rw [h4]
    rcases Nat.eq_zero_or_pos k0 with h0 | h0
    · omega
    · have := (List.getElem?_eq_some_iff.1 (hid' (k0 - 1) (by omega))).1
      omega
end Go.Vc
/-
  Symbolic execution, part Q: regions whose order is drawn are sound.
-/
namespace Go.Vc

/-- A guard, met. -/
theorem gate_spec {ρ : Nat → Loc} {ops : Array Oper} {o : Oper} {tm : List SV} {A B : List SV → Prop} {a : Act} (h : gate (o.guard.bind fun (j, want) => ((ops[j]?).bind (·.dst)).map fun t => (t, want)) tm A B) (hD : DenL ρ tm a.tmps.toList)
    (hg : ∀ j want, o.guard = some (j, want) → ((ops[j]?).bind (·.dst)).isSome = true) :
    ∃ tm', DenL ρ tm' a.tmps.toList ∧ ((Region.wanted o (yielded ops a.tmps) = true ∧ A tm') ∨ (Region.wanted o (yielded ops a.tmps) = false ∧ B tm')) := by
  unfold gate at h
  cases hgd : o.guard with
  | none => simp [hgd] at h; exact ⟨tm, hD, .inl ⟨by simp [Region.wanted, hgd], h⟩⟩
  | some jw =>
    obtain ⟨j, want⟩ := jw
    obtain ⟨t, ht⟩ := Option.isSome_iff_exists.1 (hg j want hgd)
    simp only [hgd, Option.bind_some, ht, Option.map_some] at h
    have hyield : yielded ops a.tmps j = match a.tmps[t]? with | some (.bool b) => some b | _ => none := by
      unfold yielded
      rw [ht]
      rfl
    have hget : ∀ x, sget tm t = .v x → a.tmps[t]? = some x ∧ t < tm.length := by
      intro x hx
      cases hs : tm[t]? with
      | none => rw [sget_none hs] at hx; cases hx
      | some s =>
        rw [sget_some hs] at hx
        subst hx
        obtain ⟨v, h1, h2⟩ := hD.get hs
        simp only [Den] at h2
        subst h2
        exact ⟨by simpa using h1, (List.getElem?_eq_some_iff.1 hs).1⟩
    have hset : ∀ b, a.tmps[t]? = some (.bool b) → DenL ρ (tm.set t (.v (.bool b))) a.tmps.toList := by
      intro b hb
      have := hD.set (x := .v (.bool b)) (v := .bool b) (by simp [Den]) t
      have he : a.tmps.toList.set t (.bool b) = a.tmps.toList := by
        apply List.ext_getElem?
        intro i
        by_cases hi : t = i
        · subst hi
          rw [List.getElem?_set]
          simp only [if_true]
          split
          · simpa using hb.symm
          · rename_i hlt; rw [List.getElem?_eq_none (by omega)]
        · rw [List.getElem?_set_ne hi]
      rwa [he] at this
    split at h
    · rename_i b hs
      obtain ⟨hb, _⟩ := hget _ hs
      rw [hb] at hyield
      simp only at hyield
      have hw : Region.wanted o (yielded ops a.tmps) = (b == want) := by
        simp only [Region.wanted, hgd, hyield]
        cases b <;> cases want <;> rfl
      split at h
      · cases b with
        | true =>
          have h1 := h.t rfl
          rw [sset_iff] at h1
          exact ⟨_, hset _ hb, .inl ⟨by rw [hw]; rfl, h1⟩⟩
        | false =>
          have h1 := h.f rfl
          rw [sset_iff] at h1
          exact ⟨_, hset _ hb, .inr ⟨by rw [hw]; rfl, h1⟩⟩
      · cases b with
        | true =>
          have h1 := h.t rfl
          rw [sset_iff] at h1
          exact ⟨_, hset _ hb, .inr ⟨by rw [hw]; rfl, h1⟩⟩
        | false =>
          have h1 := h.f rfl
          rw [sset_iff] at h1
          exact ⟨_, hset _ hb, .inl ⟨by rw [hw]; rfl, h1⟩⟩
    · rename_i vs hs
      obtain ⟨hb, _⟩ := hget _ hs
      rw [hb] at hyield
      simp only at hyield
      exact ⟨tm, hD, .inr ⟨by simp [Region.wanted, hgd, hyield], h⟩⟩
    · exact h.elim

/-- Every guard leads to a slot. -/
def guardsOK (ops : Array Oper) : Bool :=
  ops.toList.all fun o => match o.guard with | none => true | some (j, _) => ((ops[j]?).bind (·.dst)).isSome

theorem guards_spec {ops : Array Oper} (h : guardsOK ops = true) : ∀ o ∈ ops.toList, ∀ j want, o.guard = some (j, want) → ((ops[j]?).bind (·.dst)).isSome = true := by
  intro o ho j want hg
  unfold guardsOK at h
  have := List.all_eq_true.1 h o ho
  simpa [hg] using this


theorem holds_drawn {ρ : Nat → Loc} {hp : List Ent} {M F : HL} {w : World} {n : Nat} (H : Holds ρ hp M F w) : Holds ρ hp M F { w with drawn := n } := by
  refine ⟨fun k e he => (H.ent k e he).keep (fun _ _ h => h) rfl (FLe.refl M) fun _ _ _ _ _ => rfl, H.sep, H.out, H.frm, H.sub, H.dom⟩

theorem getO_map {f : Oper → PO} : ∀ (l : List Oper) (i : Nat), getO (l.map f) i = (l[i]?).map f
  | [], _ => by simp [getO]
  | _ :: _, 0 => by simp [getO]
  | _ :: r, n + 1 => by simp [getO, getO_map r n]

theorem memN_iff {i : Nat} : ∀ {l : List Nat}, memN i l = true ↔ i ∈ l
  | [] => by simp [memN]
  | j :: r => by
    unfold memN
    cases h : Nat.beq i j with
    | true => have := Nat.eq_of_beq_eq_true h; simp [this]
    | false => have := Nat.ne_of_beq_eq_false h; simp [this, memN_iff]

/-- Whether an operation may change the world. -/
def EE (P : Program) (ops : Array Oper) (d : Nat) : Bool := match ops[d]? with
  | some o => isE (cop P o)
  | none => false
/-- What a mark means: 'S' holds in a world where the load finds the same value; or one that waits for the load has come. -/
def MkOK (E : Nat → Bool) (l : Array Bool) (n : Nat) (ρ : Nat → Loc) (w : World) : Mk → List Nat × (World → Prop) → Prop
  | .live d s ad v, m => m.1 = d ∧ (∀ w', Keeps w w' → m.2 w') ∧ ∃ k, k ≤ n ∧ ∀ ρ' hp' M' F' w' K, Ext k ρ ρ' → Holds ρ' hp' M' F' w' → vLoad s ad hp' M' (fun v' => rig v v' K) → K ∧ ∀ w'', Keeps w' w'' → m.2 w''
  | .dead d, m => m.1 = d ∧ ∃ e ∈ d, E e = true ∧ l.getD e true = true

def MksOK (E : Nat → Bool) (l : Array Bool) (n : Nat) (ρ : Nat → Loc) (w : World) : List Mk → List (List Nat × (World → Prop)) → Prop
  | [], [] => True
  | a :: r, b :: q => MkOK E l n ρ w a b ∧ MksOK E l n ρ w r q
  | _, _ => False
def TM (E : Nat → Bool) (MS : List (List Nat × (World → Prop))) (l : Array Bool) (j : Nat) (w : World) : Prop := ∀ m ∈ MS, (∀ d ∈ m.1, E d = true → l.getD d true = false) → j ∉ m.1 → m.2 w

theorem listed_set {l : Array Bool} {e i : Nat} (h : l.getD e true = true) : (l.setIfInBounds i true).getD e true = true := by
  by_cases hi : i = e
  · subst hi
    by_cases hs : i < l.size
    · simp [hs]
    · simp [hs]
  · rw [getD_set_ne true hi]; exact h
theorem listed_self (l : Array Bool) (i : Nat) : (l.setIfInBounds i true).getD i true = true := by
  by_cases hs : i < l.size
  · simp [hs]
  · simp [hs]
theorem TM.back {E : Nat → Bool} {MS : List (List Nat × (World → Prop))} {i : Nat} (hE : E i = false) {l : Array Bool} {j : Nat} {w : World} (h : TM E MS (l.setIfInBounds i true) j w) : TM E MS l j w := fun m hm hl hj => h m hm (fun d hd he => by
  have hne : i ≠ d := fun e => by rw [e, he] at hE; cases hE
  rw [getD_set_ne true hne]
  exact hl d hd he) hj
theorem MksOK.listed {E : Nat → Bool} {l : Array Bool} {n : Nat} {ρ : Nat → Loc} {w : World} (i : Nat) : ∀ {marks : List Mk} {MS : List (List Nat × (World → Prop))}, MksOK E l n ρ w marks MS → MksOK E (l.setIfInBounds i true) n ρ w marks MS
  | [], [], _ => trivial
  | .live .. :: r, m :: MS, ⟨h, hr⟩ => ⟨h, MksOK.listed i hr⟩
  | .dead d :: r, m :: MS, ⟨⟨h1, e, h2, h3, h4⟩, hr⟩ => ⟨⟨h1, e, h2, h3, listed_set h4⟩, MksOK.listed i hr⟩
  | [], _ :: _, h => h.elim
  | _ :: _, [], h => by simp [MksOK] at h
theorem marksQ_spec {E : Nat → Bool} {l : Array Bool} (i : Nat) {n n' : Nat} {ρ ρ' : Nat → Loc} {w w' : World} (hk : Keeps w w') (hx : Ext n ρ ρ') (hn : n ≤ n') : ∀ {marks : List Mk} {MS : List (List Nat × (World → Prop))}, MksOK E l n ρ w marks MS → MksOK E (l.setIfInBounds i true) n' ρ' w' marks MS ∧ TM E MS l i w'
  | [], [], _ => ⟨trivial, fun _ h => by cases h⟩
  | .live d s ad v :: r, m :: MS, ⟨⟨h1, h2, k, h3, h4⟩, hr⟩ => by
    obtain ⟨h5, h6⟩ := marksQ_spec i hk hx hn hr
    refine ⟨⟨⟨h1, fun w'' hw => h2 w'' fun b o hb => hw b o (hk b o hb), k, by omega, fun ρ2 hp2 M2 F2 w2 K e1 e2 e3 => h4 ρ2 hp2 M2 F2 w2 K ((hx.mono h3).trans e1) e2 e3⟩, h5⟩, fun m' hm' hl hi => ?_⟩
    rcases List.mem_cons.1 hm' with rfl | hm'
    · exact h2 _ hk
    · exact h6 m' hm' hl hi
  | .dead d :: r, m :: MS, ⟨⟨h1, e, h2, h3, h4⟩, hr⟩ => by
    obtain ⟨h5, h6⟩ := marksQ_spec i hk hx hn hr
    refine ⟨⟨⟨h1, e, h2, h3, listed_set h4⟩, h5⟩, fun m' hm' hl hi => ?_⟩
    rcases List.mem_cons.1 hm' with rfl | hm'
    · rw [hl e (by rw [h1]; exact h2) h3] at h4; cases h4
    · exact h6 m' hm' hl hi
  | [], _ :: _, h => h.elim
  | _ :: _, [], h => by simp [MksOK] at h

theorem vMarks_spec {E : Nat → Bool} {l : Array Bool} {i n : Nat} (hE : E i = true) {ρ ρ' : Nat → Loc} {w w' : World} {hp' : List Ent} {M' F' : HL} (hx : Ext n ρ ρ') (H' : Holds ρ' hp' M' F' w') (hn : n ≤ hp'.length) :
    ∀ {marks : List Mk} {MS : List (List Nat × (World → Prop))} {K : List Mk → Prop}, vMarks i hp' M' marks K → MksOK E l n ρ w marks MS → ∃ marks', K marks' ∧ MksOK E (l.setIfInBounds i true) hp'.length ρ' w' marks' MS ∧ TM E MS l i w'
  | [], [], K, h, _ => ⟨[], h, trivial, fun _ h => by cases h⟩
  | .live d s ad v :: r, m :: MS, K, h, ⟨⟨h1, h2, k, h3, h4⟩, hr⟩ => by
    unfold vMarks at h
    split at h
    · rename_i hi
      obtain ⟨q, h5, h6, h7⟩ := vMarks_spec hE hx H' hn h hr
      refine ⟨_, h5, ⟨⟨h1, i, memN_iff.1 hi, hE, listed_self l i⟩, h6⟩, fun m' hm' hl hi' => ?_⟩
      rcases List.mem_cons.1 hm' with rfl | hm'
      · rw [h1] at hi'; exact absurd (memN_iff.1 hi) hi'
      · exact h7 m' hm' hl hi'
    · obtain ⟨h, hS⟩ := h4 ρ' hp' M' F' w' _ (hx.mono h3) H' h
      obtain ⟨q, h5, h6, h7⟩ := vMarks_spec hE hx H' hn h hr
      refine ⟨_, h5, ⟨⟨h1, hS, k, by omega, fun ρ2 hp2 M2 F2 w2 K e1 e2 e3 => h4 ρ2 hp2 M2 F2 w2 K ((hx.mono h3).trans e1) e2 e3⟩, h6⟩, fun m' hm' hl hi' => ?_⟩
      rcases List.mem_cons.1 hm' with rfl | hm'
      · exact hS _ (Keeps.refl _)
      · exact h7 m' hm' hl hi'
  | .dead d :: r, m :: MS, K, h, ⟨⟨h1, e, h2, h3, h4⟩, hr⟩ => by
    unfold vMarks at h
    obtain ⟨q, h5, h6, h7⟩ := vMarks_spec hE hx H' hn h hr
    refine ⟨_, h5, ⟨⟨h1, e, h2, h3, listed_set h4⟩, h6⟩, fun m' hm' hl hi' => ?_⟩
    rcases List.mem_cons.1 hm' with rfl | hm'
    · rw [hl e (by rw [h1]; exact h2) h3] at h4; cases h4
    · exact h7 m' hm' hl hi'
  | [], _ :: _, _, _, h => h.elim
  | _ :: _, [], _, _, h => by simp [MksOK] at h

theorem MksOK.mono {E : Nat → Bool} {l : Array Bool} {n n' : Nat} {ρ ρ' : Nat → Loc} {w : World} (hx : Ext n ρ ρ') (hn : n ≤ n') : ∀ {marks : List Mk} {MS : List (List Nat × (World → Prop))}, MksOK E l n ρ w marks MS → MksOK E l n' ρ' w marks MS
  | [], [], _ => trivial
  | .live .. :: r, m :: MS, ⟨⟨h1, h2, k, h3, h4⟩, hr⟩ => ⟨⟨h1, h2, k, by omega, fun ρ2 hp2 M2 F2 w2 K e1 e2 e3 => h4 ρ2 hp2 M2 F2 w2 K ((hx.mono h3).trans e1) e2 e3⟩, hr.mono hx hn⟩
  | .dead _ :: r, m :: MS, ⟨h1, hr⟩ => ⟨h1, hr.mono hx hn⟩
  | [], _ :: _, h => h.elim
  | _ :: _, [], h => by simp [MksOK] at h

theorem cell_keeps {w w' : World} (hk : Keeps w w') {a : Addr} {v : Value} (h : w.cell? a = some v) : w'.cell? a = some v := by
  unfold World.cell? at h ⊢
  cases hb : w.heap[a.block]? with
  | none => rw [hb] at h; cases h
  | some o => rw [hk _ _ hb]; rw [hb] at h; exact h
theorem Finds.keeps {s : Option Nat} {w w' : World} (hk : Keeps w w') {a : Addr} {v : Value} (h : Finds s w a v) : Finds s w' a v := by
  cases s with
  | none => exact cell_keeps hk h
  | some m =>
    obtain ⟨cs, h1, h2, h3⟩ := h
    exact ⟨cs, h1, h2, fun j v hj => cell_keeps hk (h3 j v hj)⟩

theorem cop_load {P : Program} {o : Oper} {s : Option Nat} {x : PArg} (h : cop P o = .load s x) : ∃ t x0, o.op = .load t x0 ∧ (P.underlying t).isSome = true ∧ (P.info? t).isSome = true ∧ s = sizeO P t ∧ x = carg x0 := by
  cases hop : o.op <;> simp only [cop, hop] at h
  case load t x0 =>
    split at h
    · rename_i hs
      cases h
      exact ⟨t, x0, rfl, hs.1, hs.2, rfl, rfl⟩
    · cases h
  all_goals
    first
      | cases h
      | (repeat' split at h) <;> cases h

theorem load_ok {P : Program} {o : Oper} {t : TypeId} {x : Operand} {a : Act} {w : World} {ad : Addr} {y : Value} (ho : o.op = .load t x) (hu : (P.underlying t).isSome = true) (hi : (P.info? t).isSome = true) (hv : a.eval x = .pointer (some ad)) (h2 : Finds (sizeO P t) w ad y) :
    (execOp a.eval o).run P w = .ok (.value y) w := by
  obtain ⟨d, hd⟩ := Option.isSome_iff_exists.1 hu
  obtain ⟨i, hi⟩ := Option.isSome_iff_exists.1 hi
  have hag : (isAgg t).run P w = .ok (isAggT P t) w := by
    cases d <;> simp [isAgg, isAggT, run_underlying hd, hd]
  unfold sizeO at h2
  cases hb : isAggT P t with
  | true =>
    simp only [hb, if_true, Finds] at h2
    obtain ⟨cs, rfl, hcl, hcs⟩ := h2
    have hl := run_loadCells_list (P := P) w ad cs hcs
    rw [hcl] at hl
    simp only [szOf, hi, Option.map_some, Option.getD_some] at hl
    simp [execOp, ho, Instr.loadAt, hv, Instr.sureAddr, loadVar, hag, hb, sizeOf, typeInfo, hi, hl]
  | false =>
    simp only [hb, Bool.false_eq_true, if_false, Finds] at h2
    simp [execOp, ho, Instr.loadAt, hv, Instr.sureAddr, loadVar, hag, hb, h2]

theorem takeOK_spec {md : Region.Mode} {ops : Array Oper} {l : Array Bool} {i : Nat} {deps : List Nat} (h : takeOK md ops l i deps = true) :
    i ∈ Region.ready md ops l ∧ i ∈ deps ∧ (∀ j ∈ deps, l.getD j true = false) ∧ (∀ j ∈ deps, j ≠ i → ∃ oj, ops[j]? = some oj ∧ ∃ e ∈ oj.after, Region.binds md e = true ∧ e.on ∈ deps) ∧
    ∃ oi, ops[i]? = some oi ∧ ∀ j oj, ops[j]? = some oj → j ∉ deps → l.getD j true = false → oi.apart ops oj = true := by
  simp only [takeOK, Bool.and_eq_true] at h
  obtain ⟨⟨⟨h1, h2⟩, h3⟩, h4⟩ := h
  have h3 := List.all_eq_true.1 h3
  refine ⟨by simpa using h1, by simpa using h2, fun j hj => ?_, fun j hj hne => ?_, ?_⟩
  · have := h3 j hj
    simp only [Bool.and_eq_true, Bool.not_eq_true'] at this
    exact this.1
  · have := h3 j hj
    simp only [Bool.and_eq_true, Bool.or_eq_true, beq_iff_eq] at this
    have := this.2.resolve_left hne
    split at this
    · rename_i oj hoj
      obtain ⟨e, he, hb⟩ := Array.any_eq_true'.1 this
      simp only [Bool.and_eq_true] at hb
      exact ⟨oj, hoj, e, he, hb.1, by simpa using hb.2⟩
    · cases this
  · split at h4
    · rename_i oi hoi
      refine ⟨oi, hoi, fun j oj hoj hjd hjl => ?_⟩
      have := List.all_eq_true.1 h4 j (List.mem_range.2 (Array.getElem?_eq_some_iff.1 hoj).1)
      simp only [hoj, Bool.or_eq_true, hjl, Bool.false_eq_true, or_false] at this
      exact this.resolve_left (by simpa using hjd)
    · cases h4

theorem coversB_spec {md : Region.Mode} {ops : Array Oper} {l : Array Bool} {h : List Nat} (hc : coversB md ops l h = true) : Region.ready md ops l ≠ [] ∧ ∀ j ∈ Region.ready md ops l, j ∈ h := by
  simp only [coversB, Bool.and_eq_true, Bool.not_eq_true', List.isEmpty_eq_false_iff] at hc
  refine ⟨hc.1, fun j hj => ?_⟩
  simpa using List.all_eq_true.1 hc.2 j hj

section
variable {P : Program} {Γ : Nat → Option Trans} {ops : Array Oper} {Q : Exit → Act → World → Prop} {d0 : List Deferred}

/-- What is to be shown at the end of the region. -/
def Fin (d0 : List Deferred) (Q : Exit → Act → World → Prop) (K : OK) (k0 : Nat) (ρ : Nat → Loc) (M F : HL) (w : World) : Prop :=
  ∀ tm' ρ' hp' M' F' a' w', K tm' hp' M' → k0 ≤ hp'.length → Ext k0 ρ ρ' → Holds ρ' hp' M' F' w' → Gr M F M' F' → Same w w' → DenL ρ' tm' a'.tmps.toList → a'.defers = d0 → Q .normal a' w'

theorem Fin.step {K : OK} {k0 : Nat} {ρ ρ' : Nat → Loc} {M F M' F' : HL} {w w' : World} (h : Fin d0 Q K k0 ρ M F w) (hx : Ext k0 ρ ρ') (hF : Gr M F M' F') (hS : Same w w') : Fin d0 Q K k0 ρ' M' F' w' :=
  fun tm2 ρ2 hp2 M2 F2 a2 w2 h1 h2 h3 h4 h5 h6 h7 h8 => h tm2 ρ2 hp2 M2 F2 a2 w2 h1 h2 (hx.trans h3) h4 (hF.trans h5) (hS.trans h6) h7 h8

theorem put_defers {a : Act} {d : Option Tmp} {v : Value} (h : a.defers = d0) : (a.put d v).defers = d0 := by cases d <;> exact h

theorem vDT_sound (hG : GOK P Γ) (hs : Region.noSelect ops = true) (hgs : ∀ o ∈ ops.toList, ∀ j want, o.guard = some (j, want) → ((ops[j]?).bind (·.dst)).isSome = true)
    (hQ : ∀ c a w, Q (.panic c) a w → False) (k0 : Nat) : ∀ (dt : DT) (K : OK),
    (∀ (fuel : Nat) (listed : Array Bool), dtOK .any ops dt true fuel listed = true → ∀ marks MS tm hp M, k0 ≤ hp.length → vDT Γ (ops.toList.map (cpo P ops)) dt marks tm hp M K →
      ∀ ρ F w a, Holds ρ hp M F w → DenL ρ tm a.tmps.toList → MksOK (EE P ops) listed hp.length ρ w marks MS → a.defers = d0 → Fin d0 Q K k0 ρ M F w → wpAnyT P .any ops Q (TM (EE P ops) MS) fuel listed a w) ∧
    (∀ (fuel : Nat) (listed : Array Bool), dtOK .any ops dt false (fuel + 1) listed = true → ∀ marks MS tm hp M, k0 ≤ hp.length → vDT Γ (ops.toList.map (cpo P ops)) dt marks tm hp M K →
      ∀ ρ F w a, Holds ρ hp M F w → DenL ρ tm a.tmps.toList → MksOK (EE P ops) listed hp.length ρ w marks MS → a.defers = d0 → Fin d0 Q K k0 ρ M F w →
      ∀ j ∈ dt.heads, wpOp P ops Q j (fun a' w' => (w' = w ∨ TM (EE P ops) MS listed j w') ∧ wpAnyT P .any ops Q (TM (EE P ops) MS) fuel (listed.setIfInBounds j true) a' w') a w) := by
  intro dt K
  have hgt : ∀ (i : Nat) (o : Oper), ops[i]? = some o → getO (ops.toList.map (cpo P ops)) i = some (cpo P ops o) := fun i o hi => by
    rw [getO_map]; simp [hi]
  have hgd : ∀ (i : Nat) (o : Oper), ops[i]? = some o → ∀ j want, o.guard = some (j, want) → ((ops[j]?).bind (·.dst)).isSome = true := fun i o hi => hgs o (by
    have := Array.mem_of_getElem? hi
    simpa using this)
  induction dt with
  | done =>
    refine ⟨fun fuel listed hok marks MS tm hp M hk h ρ F w a H hD hMs hd hfin => ?_, fun fuel listed hok => by simp [dtOK] at hok⟩
    simp only [dtOK, Bool.true_and, List.isEmpty_iff] at hok
    have hq : Q .normal a w := hfin tm ρ hp M F a w h hk (Ext.refl _ _) H (Gr.refl M F) (Same.refl w) hD hd
    cases fuel with
    | zero => exact ⟨hok, hq⟩
    | succ f => exact ⟨fun _ => hq, by rw [hok]; simp⟩
  | take i deps r ih =>
    refine ⟨fun fuel listed hok marks MS tm hp M hk h ρ F w a H hD hMs hd hfin => ?_, fun fuel listed hok => by simp [dtOK] at hok⟩
    cases fuel with
    | zero => simp [dtOK] at hok
    | succ f =>
      simp only [dtOK, Bool.true_and, Bool.and_eq_true] at hok
      obtain ⟨hr, hiD, hun, hcl, oi, hoi, hfree⟩ := takeOK_spec hok.1
      change dTake Γ _ i deps r (vDT Γ _ r) marks tm hp M K at h
      unfold dTake at h
      rw [hgt i oi hoi] at h
      dsimp only at h
      split at h
      · exact h.elim
      rename_i hEi0
      have hEi : EE P ops i = false := by unfold EE; rw [hoi]; exact hEi0
      obtain ⟨tm1, hD1, hor⟩ := gate_spec (o := oi) (ops := ops) h hD (hgd i oi hoi)
      -- taken first, whatever the world
      have pure : ∀ (v : Value) (tm2 : List SV), YieldsIf P ops (fun _ => True) oi v a → DenL ρ tm2 (a.put oi.dst v).tmps.toList → vDT Γ (ops.toList.map (cpo P ops)) r marks tm2 hp M K → wpAnyT P .any ops Q (TM (EE P ops) MS) (f + 1) listed a w := fun v tm2 hy hD2 h2 =>
        wpAnyT_first (T := TM (EE P ops) MS) (S := fun _ => True) hoi (fun j o cs b ho => Region.noSelect_spec hs j o cs b ho) (fun c a w h => (hQ _ _ _ h).elim) hcl (fun _ _ _ _ _ _ => trivial) hEi (fun _ _ _ h => TM.back hEi h) f listed a w hun hiD hfree hr hy trivial
          (ih.1 f _ hok.2 marks MS tm2 hp M hk h2 ρ F w _ H hD2 (hMs.listed i) (put_defers hd) hfin)
      rcases hor with ⟨hw, h1⟩ | ⟨hw, h1⟩
      · split at h1
        · rename_i s x hop
          obtain ⟨t, x0, ho, hu, hi, rfl, rfl⟩ := cop_load (show cop P oi = _ from hop)
          rw [force_eq] at h1
          have hda := ev_den hD1 x0
          obtain ⟨ad, y, sv, hv, hf, h2, hy⟩ := vLoad_sound h1 H hda
          obtain ⟨tm2, h3, hD2⟩ := putS_den h2 hD1 hy
          refine wpAnyT_mono (T := TM (EE P ops) ((deps, fun w' => Finds (sizeO P t) w' ad y) :: MS)) (fun l j w' hT m hm => hT m (List.mem_cons_of_mem _ hm)) _ _ _ _ ?_
          refine wpAnyT_first (T := TM (EE P ops) ((deps, fun w' => Finds (sizeO P t) w' ad y) :: MS)) (S := fun w' => Finds (sizeO P t) w' ad y) hoi (fun j o cs b ho => Region.noSelect_spec hs j o cs b ho) (fun c a w h => (hQ _ _ _ h).elim) hcl (fun l j hl hj w' hT => hT (deps, fun w' => Finds (sizeO P t) w' ad y) List.mem_cons_self hl hj) hEi (fun _ _ _ h => TM.back hEi h) f listed a w hun hiD hfree hr
            (.inl ⟨hw, fun w' hS => load_ok ho hu hi hv hS⟩) hf (ih.1 f _ hok.2 _ _ tm2 hp M hk h3 ρ F w _ H hD2 ⟨⟨rfl, fun w' hk => hf.keeps hk, hp.length, Nat.le_refl _, ?_⟩, hMs.listed i⟩ (put_defers hd) hfin)
          intro ρ' hp' M' F' w' K' hx H' hl
          have hle := H.le hx
          obtain ⟨ad', y', sv', hv', hf', h4, hy'⟩ := vLoad_sound hl H' (hda.mono hle)
          rw [hv] at hv'
          cases hv'
          obtain ⟨h5, rfl⟩ := rig_spec hle _ _ _ h4 _ _ hy hy'
          exact ⟨h5, fun w'' hk => hf'.keeps hk⟩
        · split at h1
          · rename_i hpu
            obtain ⟨v, sv, hrun, h2, hv⟩ := vcPure_sound hG H hD1 (o := oi) hpu h1
            obtain ⟨tm2, h3, hD2⟩ := putS_den h2 hD1 hv
            exact pure v tm2 (.inl ⟨hw, fun w _ => hrun w⟩) hD2 h3
          · exact h1.elim
      · obtain ⟨tm2, h3, hD2⟩ := putS_den h1 hD1 (show Den ρ (.v undef) undef from rfl)
        exact pure undef tm2 (.inr ⟨hw, rfl⟩) hD2 h3
  | eff q i r ih =>
    have B : ∀ (fuel : Nat) (listed : Array Bool), dtOK .any ops (.eff q i r) false (fuel + 1) listed = true → ∀ marks MS tm hp M, k0 ≤ hp.length → vDT Γ (ops.toList.map (cpo P ops)) (.eff q i r) marks tm hp M K →
      ∀ ρ F w a, Holds ρ hp M F w → DenL ρ tm a.tmps.toList → MksOK (EE P ops) listed hp.length ρ w marks MS → a.defers = d0 → Fin d0 Q K k0 ρ M F w →
      ∀ j ∈ (DT.eff q i r).heads, wpOp P ops Q j (fun a' w' => (w' = w ∨ TM (EE P ops) MS listed j w') ∧ wpAnyT P .any ops Q (TM (EE P ops) MS) fuel (listed.setIfInBounds j true) a' w') a w := by
      intro fuel listed hok marks MS tm hp M hk h ρ F w a H hD hMs hd hfin j hj
      have hj : j = i := by simpa [DT.heads] using hj
      subst hj
      simp only [dtOK, Bool.not_false, Bool.true_or, Bool.true_and, Bool.and_eq_true, decide_eq_true_eq] at hok
      obtain ⟨oi, hoi⟩ : ∃ oi, ops[j]? = some oi := ⟨_, Array.getElem?_eq_getElem hok.1⟩
      change dEff Γ _ q j r (vDT Γ _ r) marks tm hp M K at h
      unfold dEff at h
      rw [hgt j oi hoi] at h
      dsimp only at h
      obtain ⟨tm1, hD1, hor⟩ := gate_spec (o := oi) (ops := ops) h hD (hgd j oi hoi)
      unfold wpOp
      simp only [hoi]
      rcases hor with ⟨hw, h1⟩ | ⟨hw, h1⟩
      · rw [if_pos hw]
        left
        split at h1
        · rename_i s x hop
          obtain ⟨t, x0, ho, hu, hi, rfl, rfl⟩ := cop_load (show cop P oi = _ from hop)
          rw [force_eq] at h1
          obtain ⟨ad, y, sv, hv, hf, h2, hy⟩ := vLoad_sound h1 H (ev_den hD1 x0)
          obtain ⟨tm2, h3, hD2⟩ := putS_den h2 hD1 hy
          exact OpWp.of_value (R := fun v w' => v = y ∧ w' = w) (load_ok ho hu hi hv hf) ⟨rfl, rfl⟩ _ _ (by
            rintro v w' ⟨rfl, rfl⟩
            exact ⟨.inl rfl, ih.1 fuel _ hok.2 marks MS tm2 hp M hk h3 ρ F _ _ H hD2 (hMs.listed j) (put_defers hd) hfin⟩)
        rename_i hop
        split at h1
        · rename_i hpu
          obtain ⟨v, sv, hrun, h2, hv⟩ := vcPure_sound hG H hD1 (o := oi) hpu h1
          obtain ⟨tm2, h3, hD2⟩ := putS_den h2 hD1 hv
          exact OpWp.of_value (R := fun v' w' => v' = v ∧ w' = w) (hrun w) ⟨rfl, rfl⟩ _ _ (by
            rintro v' w' ⟨rfl, rfl⟩
            exact ⟨.inl rfl, ih.1 fuel _ hok.2 marks MS tm2 hp M hk h3 ρ F _ _ H hD2 (hMs.listed j) (put_defers hd) hfin⟩)
        rename_i hpu
        have hEj : EE P ops j = true := by
          unfold EE
          rw [hoi]
          show isE (cpo P ops oi).op = true
          unfold isE
          split
          · rename_i hh; exact absurd hh (hop _ _)
          · rw [hpu]; rfl
        cases q with
        | true =>
          dsimp only at h1
          split at h1
          · rename_i hbs
            obtain ⟨e0, ck0, n0, z0, ps0, hb0⟩ : ∃ e ck n z ps, cop P oi = .bslice e ck n z ps := by
              unfold isBs at hbs
              split at hbs
              · rename_i hb0; exact ⟨_, _, _, _, _, hb0⟩
              · cases hbs
            obtain ⟨t1, n1, ps1, ho1⟩ := cop_bslice (P := P) H hD1 hb0
            refine s_bslice2 H hD1 ho1 h1 _ _ fun v w' hpost => ?_
            obtain ⟨⟨sv, ρ', hp', M', F', h3, hl, he, H', hF, hS, hv⟩, ob, hw'⟩ := hpost
            have hkp : Keeps w w' := by subst hw'; exact heap_alloc_keeps w ob
            have hle := H.le he
            obtain ⟨tm2, h5, hD2⟩ := putS_den h3 (hD1.mono hle) hv
            obtain ⟨hM2, hT⟩ := marksQ_spec j hkp he hl hMs
            exact ⟨.inr hT, ih.1 fuel _ hok.2 marks MS tm2 hp' M' (by omega) h5 ρ' F' w' _ H' hD2 hM2 (put_defers hd) (hfin.step (he.mono hk) hF hS)⟩
          have h2 := h1 (heapL w) (fun b o h => H.frm _ _ (H.sub _ _ h))
          rw [roL_eq] at h2
          refine vcOp_sound hG H.quiet hD1 (o := oi) h2 _ _ fun v w' hpost => ?_
          obtain ⟨sv, ρ', hp', M', F', h3, hl, he, H', hF, hS, hv⟩ := hpost
          rw [List.length_map] at hl he
          rw [llen_eq, dropN_eq] at h3
          split at h3
          case h_2 => exact h3.elim
          rename_i hnew
          rw [eapp_eq] at h3
          obtain ⟨H2, hkp⟩ := H.unquiet hl he H' hF.fr hnew
          have hle := H.le he
          obtain ⟨tm2, h4, hD2⟩ := putS_den h3 (hD1.mono hle) hv
          have hlen : hp.length ≤ (hp ++ hp'.drop hp.length).length := by simp
          obtain ⟨hM2, hT⟩ := marksQ_spec j hkp he hlen hMs
          exact ⟨.inr hT, ih.1 fuel _ hok.2 marks MS tm2 _ M (by omega) h4 ρ' F w' _ H2 hD2 hM2 (put_defers hd) (hfin.step (he.mono hk) (Gr.refl M F) hS)⟩
        | false =>
          dsimp only at h1
          refine vcOp_sound hG H hD1 (o := oi) h1 _ _ fun v w' hpost => ?_
          obtain ⟨sv, ρ', hp', M', F', h3, hl, he, H', hF, hS, hv⟩ := hpost
          have hle := H.le he
          obtain ⟨marks', h4, hM2, hT⟩ := vMarks_spec hEj he H' hl h3 hMs
          obtain ⟨tm2, h5, hD2⟩ := putS_den h4 (hD1.mono hle) hv
          exact ⟨.inr hT, ih.1 fuel _ hok.2 marks' MS tm2 hp' M' (by omega) h5 ρ' F' w' _ H' hD2 hM2 (put_defers hd) (hfin.step (he.mono hk) hF hS)⟩
      · rw [if_neg (by rw [hw]; simp)]
        obtain ⟨tm2, h3, hD2⟩ := putS_den h1 hD1 (show Den ρ (.v undef) undef from rfl)
        exact ⟨.inl trivial, ih.1 fuel _ hok.2 marks MS tm2 hp M hk h3 ρ F w _ H hD2 (hMs.listed j) (put_defers hd) hfin⟩
    refine ⟨fun fuel listed hok marks MS tm hp M hk h ρ F w a H hD hMs hd hfin => ?_, B⟩
    cases fuel with
    | zero => simp [dtOK] at hok
    | succ f =>
      have hok' : dtOK .any ops (.eff q i r) false (f + 1) listed = true := by
        simp only [dtOK, Bool.not_false, Bool.true_or, Bool.true_and, Bool.and_eq_true] at hok ⊢
        exact ⟨hok.1.2, hok.2⟩
      simp only [dtOK, Bool.not_true, Bool.false_or, Bool.and_eq_true] at hok
      obtain ⟨hne, hall⟩ := coversB_spec hok.1.1
      exact ⟨fun h0 => absurd h0 hne, fun j hj => B f listed hok' marks MS tm hp M hk h ρ F w a H hD hMs hd hfin j (hall j hj)⟩
  | both x y ihx ihy =>
    have B : ∀ (fuel : Nat) (listed : Array Bool), dtOK .any ops (.both x y) false (fuel + 1) listed = true → ∀ marks MS tm hp M, k0 ≤ hp.length → vDT Γ (ops.toList.map (cpo P ops)) (.both x y) marks tm hp M K →
      ∀ ρ F w a, Holds ρ hp M F w → DenL ρ tm a.tmps.toList → MksOK (EE P ops) listed hp.length ρ w marks MS → a.defers = d0 → Fin d0 Q K k0 ρ M F w →
      ∀ j ∈ (DT.both x y).heads, wpOp P ops Q j (fun a' w' => (w' = w ∨ TM (EE P ops) MS listed j w') ∧ wpAnyT P .any ops Q (TM (EE P ops) MS) fuel (listed.setIfInBounds j true) a' w') a w := by
      intro fuel listed hok marks MS tm hp M hk h ρ F w a H hD hMs hd hfin j hj
      change _ ∧ _ at h
      simp only [dtOK, Bool.not_false, Bool.true_or, Bool.true_and, Bool.and_eq_true] at hok
      rcases List.mem_append.1 (show j ∈ x.heads ++ y.heads from hj) with hj | hj
      · exact ihx.2 fuel listed hok.1 marks MS tm hp M hk h.1 ρ F w a H hD hMs hd hfin j hj
      · exact ihy.2 fuel listed hok.2 marks MS tm hp M hk h.2 ρ F w a H hD hMs hd hfin j hj
    refine ⟨fun fuel listed hok marks MS tm hp M hk h ρ F w a H hD hMs hd hfin => ?_, B⟩
    cases fuel with
    | zero => simp [dtOK] at hok
    | succ f =>
      have hok' : dtOK .any ops (.both x y) false (f + 1) listed = true := by
        simp only [dtOK, Bool.not_false, Bool.true_or, Bool.true_and, Bool.and_eq_true] at hok ⊢
        exact ⟨hok.1.2, hok.2⟩
      simp only [dtOK, Bool.not_true, Bool.false_or, Bool.and_eq_true] at hok
      obtain ⟨hne, hall⟩ := coversB_spec hok.1.1
      exact ⟨fun h0 => absurd h0 hne, fun j hj => B f listed hok' marks MS tm hp M hk h ρ F w a H hD hMs hd hfin j (hall j hj)⟩
end
end Go.Vc
