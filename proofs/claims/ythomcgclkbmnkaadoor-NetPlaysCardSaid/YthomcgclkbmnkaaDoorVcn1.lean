/-
  Symbolic execution, part N: code is sound.
-/
import Derived.Test.YthomcgclkbmnkaaDoorVcz
namespace Go.Vc

/-- The mark of a range over a function among the calls that wait for the return. -/
def coll (D : Nat) : Deferred := { target := .collected D, args := #[] }
def Mrk (d0 : List Deferred) (F M' F' : HL) (d : List Deferred) : Prop :=
  ∃ ds : List Nat, d = ds.map coll ++ d0 ∧ ds.Nodup ∧ ∀ D ∈ ds, F' D = some (.deferred (some [])) ∧ F D = none ∧ M' D = none
theorem Mrk.refl (d0 : List Deferred) (F M' F' : HL) : Mrk d0 F M' F' d0 := ⟨[], rfl, by simp, fun _ h => by cases h⟩
theorem Mrk.of_eq {d0 d : List Deferred} {F M' F' : HL} (h : d = d0) : Mrk d0 F M' F' d := h ▸ Mrk.refl d0 F M' F'
theorem Mrk.le {d0 d : List Deferred} {F F1 M' F' : HL} (h : Mrk d0 F1 M' F' d) (hF : FLe F F1) : Mrk d0 F M' F' d := by
  obtain ⟨ds, h1, h2, h3⟩ := h
  refine ⟨ds, h1, h2, fun D hD => ⟨(h3 D hD).1, ?_, (h3 D hD).2.2⟩⟩
  cases hf : F D with
  | none => rfl
  | some o => rw [← (h3 D hD).2.1, hF D o hf]
theorem Mrk.trans {d0 d1 d2 : List Deferred} {F M1 F1 M2 F2 : HL} (h1 : Mrk d0 F M1 F1 d1) (h2 : Mrk d1 F1 M2 F2 d2) (g1 : FLe F F1) (g2 : Gr M1 F1 M2 F2) : Mrk d0 F M2 F2 d2 := by
  obtain ⟨x, e1, n1, p1⟩ := h1
  obtain ⟨y, e2, n2, p2⟩ := h2
  refine ⟨y ++ x, by rw [e2, e1, List.map_append, List.append_assoc], ?_, fun D hD => ?_⟩
  · refine List.nodup_append.2 ⟨n2, n1, fun a ha b hb hab => ?_⟩
    subst hab
    have := (p1 a hb).1
    rw [(p2 a ha).2.1] at this
    cases this
  · rcases List.mem_append.1 hD with h | h
    · refine ⟨(p2 D h).1, ?_, (p2 D h).2.2⟩
      cases hf : F D with
      | none => rfl
      | some o => rw [← (p2 D h).2.1, g1 D o hf]
    · refine ⟨g2.fr _ _ (p1 D h).1, (p1 D h).2.1, ?_⟩
      cases hm : M2 D with
      | none => rfl
      | some o =>
        rcases g2.n D o hm with h3 | h3
        · rw [(p1 D h).2.2] at h3; cases h3
        · rw [(p1 D h).1] at h3; cases h3

/-- What stands behind a piece of code. -/
def CPost (K : Ex → List SV → List Ent → HL → Prop) (k0 : Nat) (ρ : Nat → Loc) (M F : HL) (w : World) (d0 : List Deferred) (e : Exit) (a' : Act) (w' : World) : Prop :=
  ∃ ex tm' ρ' hp' M' F', (e = match ex with | .normal => .normal | .exit id => .exit id | .ret => .ret) ∧ K ex tm' hp' M' ∧ k0 ≤ hp'.length ∧ Ext k0 ρ ρ' ∧ Holds ρ' hp' M' F' w' ∧ Gr M F M' F' ∧ Same w w' ∧ DenL ρ' tm' a'.tmps.toList ∧ Mrk d0 F M' F' a'.defers
theorem Holds.put {ρ : Nat → Loc} {hp : List Ent} {M F F2 : HL} {w : World} {D : Nat} {o' : Obj} (H : Holds ρ hp M F w) (hn : ∀ n, ¬ owns ρ hp n D)
    (hF2 : ∀ k o, F2 k = some o → (w.putObj D o').heap[k]? = some o) (hsub : ∀ k o, M k = some o → F2 k = some o) (hout : ∀ n b, owns ρ hp n b → F2 b = none) : Holds ρ hp M F2 (w.putObj D o') := by
  refine ⟨fun n e he => ?_, H.sep, hout, hF2, hsub, H.dom⟩
  have h := H.ent n e he
  have hne : ∀ b base cap, e.own = true → ρ n = some (b, base, cap) → (w.putObj D o').heap[b]? = w.heap[b]? := fun b base cap ho hr =>
    World.putObj_heap_other fun hb => hn n (hb ▸ ⟨e, base, cap, he, ho, hr⟩)
  cases e with
  | gone => trivial
  | cells e vs =>
    obtain ⟨b, cap, cs, h1, h2, h3⟩ := h
    exact ⟨b, cap, cs, h1, by rw [hne b 0 cap rfl h1]; exact h2, h3⟩
  | rcells e vs => exact h
  | row own e ck rows =>
    obtain ⟨h1, h2⟩ := h
    refine ⟨h1, ?_⟩
    cases hr : ρ n with
    | none => rw [hr] at h2; exact h2
    | some x =>
      obtain ⟨b, base, cap⟩ := x
      rw [hr] at h2
      obtain ⟨cur, fr, h3, h4⟩ := h2
      refine ⟨cur, fr, ?_, h4⟩
      cases own with
      | true => exact ⟨by rw [hne b base cap rfl hr]; exact h3.1, h3.2⟩
      | false => exact h3

theorem CPost.noOut {K : Ex → List SV → List Ent → HL → Prop} {k0 : Nat} {ρ : Nat → Loc} {M F : HL} {w : World} {d0 : List Deferred} : ¬ LetsOut (CPost K k0 ρ M F w d0) := by
  rintro ⟨a, w, ex, _, _, _, _, _, h, _⟩
  cases ex <;> cases h

theorem vcOps_sound {P : Program} {Γ : Nat → Option Trans} (hG : GOK P Γ) {ops : Array Oper} {d0 : List Deferred} (k0 : Nat) : ∀ (l : List Oper) (tm : List SV) (hp : List Ent) (M : HL) (K : List SV → List Ent → HL → Prop),
    (∀ o ∈ l, ∀ j want, o.guard = some (j, want) → ((ops[j]?).bind (·.dst)).isSome = true) → k0 ≤ hp.length → vcOps Γ (l.map (cpo P ops)) tm hp M K →
    ∀ (ρ : Nat → Loc) (F : HL) (w : World) (a : Act) (Q : Exit → Act → World → Prop), Holds ρ hp M F w → DenL ρ tm a.tmps.toList → a.defers = d0 →
    (∀ a' w', CPost (fun e tm hp M => e = .normal ∧ K tm hp M) k0 ρ M F w d0 .normal a' w' → Q .normal a' w') → wpList P ops Q l a w
  | [], tm, hp, M, K, _, hk, h, ρ, F, w, a, Q, H, hD, hd, hQ => by
    change K tm hp M at h
    exact hQ _ _ ⟨.normal, tm, ρ, hp, M, F, rfl, ⟨rfl, h⟩, hk, Ext.refl _ _, H, Gr.refl M F, Same.refl w, hD, .of_eq hd⟩
  | o :: l, tm, hp, M, K, hgs, hk, h, ρ, F, w, a, Q, H, hD, hd, hQ => by
    change gate (cpo P ops o).guard tm (fun tm => vcOp Γ (cpo P ops o).op tm hp M fun v hp' M' => putS (cpo P ops o).dst v tm fun tm' => vcOps Γ (l.map (cpo P ops)) tm' hp' M' K) (fun tm => putS (cpo P ops o).dst (.v undef) tm fun tm' => vcOps Γ (l.map (cpo P ops)) tm' hp M K) at h
    have hpd : ∀ d v, (a.put d v).defers = d0 := fun d v => by cases d <;> exact hd
    obtain ⟨tm1, hD1, hor⟩ := gate_spec (o := o) (ops := ops) h hD (hgs o (by simp))
    unfold wpList
    rcases hor with ⟨hw, h1⟩ | ⟨hw, h1⟩
    · rw [if_pos hw]
      refine .inl (vcOp_sound hG H hD1 h1 _ _ fun v w' hpost => ?_)
      obtain ⟨sv, ρ', hp', M', F', h2, hl, he, H', hF, hS, hv⟩ := hpost
      have hle := H.le he
      obtain ⟨tm2, h3, hD2⟩ := putS_den h2 (hD1.mono hle) hv
      refine vcOps_sound hG k0 l tm2 hp' M' K (fun o' ho' => hgs o' (by simp [ho'])) (by omega) h3 ρ' F' w' _ Q H' hD2 (hpd _ _) fun a' w'' hc => hQ _ _ ?_
      obtain ⟨ex, tm', ρ2, hp2, M2, F2, e1, e2, e3, e4, e5, e6, e7, e8, e9⟩ := hc
      exact ⟨ex, tm', ρ2, hp2, M2, F2, e1, e2, e3, (he.mono hk).trans e4, e5, hF.trans e6, hS.trans e7, e8, e9.le hF.fr⟩
    · rw [if_neg (by rw [hw]; simp)]
      obtain ⟨tm2, h3, hD2⟩ := putS_den h1 hD1 (show Den ρ (.v undef) undef from rfl)
      exact vcOps_sound hG k0 l tm2 hp M K (fun o' ho' => hgs o' (by simp [ho'])) hk h3 ρ F w _ Q H hD2 (hpd _ _) hQ

/-- No range over a function. -/
def noRange : Code → Bool
  | .rangeFunc .. => false
  | .seq a b | .cond _ a b => noRange a && noRange b
  | .block _ c | .loop c => noRange c
  | _ => true
/-- The guards of all regions; the plans of those whose order is drawn. -/
def guardsAll (pl : Nat → DT) : Code → Bool
  | .region id ops draw => guardsOK ops && noDefer ops && (!draw || (Region.noSelect ops && dtOK .any ops ((cutOf (pl id)).getD (pl id)) true ops.size (Array.replicate ops.size false)))
  | .seq a b => guardsAll pl a && guardsAll pl b
  | .cond _ a b => guardsAll pl a && guardsAll pl b
  | .block _ c | .loop c => guardsAll pl c
  | .rangeFunc _ _ a b => guardsAll pl a && guardsAll pl b && noRange a && noRange b
  | _ => true

theorem region_sound {P : Program} {Γ : Nat → Option Trans} (hG : GOK P Γ) (hm : P.follows .mixedOrders = true) {pl : Nat → DT} (k0 : Nat) {ro : Option Nat} {n : Nat} {id : Nat} {ops : Array Oper} {draw : Bool} {tm : List SV} {hp : List Ent} {M : HL} {K : Ex → List SV → List Ent → HL → Prop}
    (hg : guardsAll pl (.region id ops draw) = true) (hk : k0 ≤ hp.length) (h : vReg Γ draw (ops.toList.map (cpo P ops)) (if draw then (cutOf (pl id)).getD (pl id) else .done) tm hp M K)
    {ρ : Nat → Loc} {F : HL} {w : World} {a : Act} (H : Holds ρ hp M F w) (hD : DenL ρ tm a.tmps.toList) : (Code.region id ops draw).wpIn (Wd ro) n P (CPost K k0 ρ M F w a.defers) a w := by
    simp only [guardsAll, Bool.and_eq_true] at hg
    have hnd := noDefer_spec hg.1.2
    cases draw with
    | true =>
      simp only [Bool.and_eq_true, Bool.not_true, Bool.false_or] at hg
      change vDT Γ _ ((cutOf (pl id)).getD (pl id)) [] tm hp M (K .normal) at h
      refine wpIn_region_any hm (any_in CPost.noOut hnd _ _ _ _ (wpAny_of_T _ _ _ _ ((vDT_sound (d0 := a.defers) hG hg.2.1 (guards_spec hg.1.1) (fun c a w h => ?_) k0 ((cutOf (pl id)).getD (pl id)) (K .normal)).1 _ _ hg.2.2 [] [] tm hp M hk h ρ F _ a (holds_drawn H) hD trivial rfl (fun tm' ρ' hp' M' F' a' w' h1 h2 h3 h4 h5 h6 h7 h8 => ⟨.normal, tm', ρ', hp', M', F', rfl, h1, h2, h3, h4, h5, ⟨h6.os, h6.tape, h6.output, h6.size⟩, h7, .of_eq h8⟩))))
      obtain ⟨ex, _, _, _, _, _, e1, _⟩ := h
      cases ex <;> cases e1
    | false =>
      change vcOps Γ _ tm hp M (K .normal) at h
      refine wpIn_region_list (list_in CPost.noOut _ hnd _ _ (vcOps_sound (d0 := a.defers) hG k0 ops.toList tm hp M _ (guards_spec hg.1.1) hk h ρ F w a _ H hD rfl fun a' w' hc => ?_))
      obtain ⟨ex, tm', ρ2, hp2, M2, F2, e1, ⟨rfl, e2⟩, e3⟩ := hc
      exact ⟨.normal, tm', ρ2, hp2, M2, F2, rfl, e2, e3⟩

/-- What is shown of a piece of code. -/
def Sound (P : Program) (Γ : Nat → Option Trans) (pl : Nat → DT) (c : Code) : Prop :=
  ∀ (ro : Option Nat) (n k0 : Nat) (tm : List SV) (hp : List Ent) (M : HL) (K : Ex → List SV → List Ent → HL → Prop), (ro = none ∨ noRange c = true) → guardsAll pl c = true → k0 ≤ hp.length → vc Γ k0 (ccode P pl c) tm hp M K →
    ∀ (ρ : Nat → Loc) (F : HL) (w : World) (a : Act), Holds ρ hp M F w → DenL ρ tm a.tmps.toList → c.wpIn (Wd ro) n P (CPost K k0 ρ M F w a.defers) a w

end Go.Vc
