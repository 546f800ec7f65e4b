/-
  Symbolic execution, part N: code is sound.
-/
import Derived.Test.YtkfkoldaeplckaaVcq
namespace Go.Vc

theorem wp_loopN {P : Program} {c : Code} {Q : Exit → Act → World → Prop} (I : Nat → Act → World → Prop)
    (round : ∀ n a w, I n a w → c.wp P (Exit.then (fun a' w' => ∃ n', n' < n ∧ I n' a' w') Q) a w) {n : Nat} {a : Act} {w : World} (h : I n a w) : (Code.loop c).wp P Q a w := by
  intro b k cs
  have key : ∀ n a w, I n a w → ∃ e a' w', Q e a' w' ∧ Arrives P (lone (b.at a (.code c :: .inLoop c :: k)) cs w) b k cs e a' w' := by
    intro n
    induction n using Nat.strongRecOn with
    | _ n ih =>
      intro a w hI
      obtain ⟨e, a1, w1, hq, harr⟩ := round n a w hI b (.inLoop c :: k) cs
      cases e with
      | normal =>
        obtain ⟨n', hlt, hI'⟩ := hq
        obtain ⟨e2, a2, w2, hq2, harr2⟩ := ih n' hlt _ _ hI'
        exact ⟨e2, a2, w2, hq2, .of_steps (Steps.trans harr (.one step_inLoop)) harr2⟩
      | exit id => exact ⟨_, a1, w1, hq, .pass (x := .inLoop c) rfl (fun _ _ => .inl (by simp)) harr⟩
      | goto l => exact ⟨_, a1, w1, hq, .pass (x := .inLoop c) rfl (fun _ _ => .inl (by simp)) harr⟩
      | ret => exact ⟨_, a1, w1, hq, .pass (x := .inLoop c) rfl (fun _ _ => .inl (by simp)) harr⟩
      | panic ch => exact ⟨_, a1, w1, hq, .pass (x := .inLoop c) rfl (fun _ _ => .inl (by simp)) harr⟩
      | outgrown => exact ⟨_, a1, w1, hq, .pass (x := .inLoop c) rfl (fun _ _ => .inl (by simp)) harr⟩
  obtain ⟨e, a', w', hq, harr⟩ := key n a w h
  exact ⟨e, a', w', hq, .of_steps (.one step_loop) harr⟩

/-- What stands behind a piece of code. -/
def CPost (K : Ex → List SV → List Ent → HL → Prop) (k0 : Nat) (ρ : Nat → Loc) (M F : HL) (w : World) (e : Exit) (a' : Act) (w' : World) : Prop :=
  ∃ ex tm' ρ' hp' M' F', (e = match ex with | .normal => .normal | .exit id => .exit id | .ret => .ret) ∧ K ex tm' hp' M' ∧ k0 ≤ hp'.length ∧ Ext k0 ρ ρ' ∧ Holds ρ' hp' M' F' w' ∧ Gr M F M' F' ∧ Same w w' ∧ DenL ρ' tm' a'.tmps.toList ∧ a'.defers = []

theorem vcOps_sound {P : Program} {Γ : Nat → Option Trans} (hG : GOK P Γ) {ops : Array Oper} (k0 : Nat) : ∀ (l : List Oper) (tm : List SV) (hp : List Ent) (M : HL) (K : List SV → List Ent → HL → Prop),
    (∀ o ∈ l, ∀ j want, o.guard = some (j, want) → ((ops[j]?).bind (·.dst)).isSome = true) → k0 ≤ hp.length → vcOps Γ (l.map (cpo P ops)) tm hp M K →
    ∀ (ρ : Nat → Loc) (F : HL) (w : World) (a : Act) (Q : Exit → Act → World → Prop), Holds ρ hp M F w → DenL ρ tm a.tmps.toList → a.defers = [] →
    (∀ a' w', CPost (fun e tm hp M => e = .normal ∧ K tm hp M) k0 ρ M F w .normal a' w' → Q .normal a' w') → wpList P ops Q l a w
  | [], tm, hp, M, K, _, hk, h, ρ, F, w, a, Q, H, hD, hd, hQ => by
    change K tm hp M at h
    exact hQ _ _ ⟨.normal, tm, ρ, hp, M, F, rfl, ⟨rfl, h⟩, hk, Ext.refl _ _, H, Gr.refl M F, Same.refl w, hD, hd⟩
  | o :: l, tm, hp, M, K, hgs, hk, h, ρ, F, w, a, Q, H, hD, hd, hQ => by
    change gate (cpo P ops o).guard tm (fun tm => vcOp Γ (cpo P ops o).op tm hp M fun v hp' M' => putS (cpo P ops o).dst v tm fun tm' => vcOps Γ (l.map (cpo P ops)) tm' hp' M' K) (fun tm => putS (cpo P ops o).dst (.v undef) tm fun tm' => vcOps Γ (l.map (cpo P ops)) tm' hp M K) at h
    have hpd : ∀ d v, (a.put d v).defers = [] := fun d v => by cases d <;> exact hd
    obtain ⟨tm1, hD1, hor⟩ := gate_spec (o := o) (ops := ops) h hD (hgs o (by simp))
    unfold wpList
    rcases hor with ⟨hw, h1⟩ | ⟨hw, h1⟩
    · rw [if_pos hw]
      refine .inl (vcOp_sound hG H hD1 h1 _ _ fun v w' hpost => ?_)
      obtain ⟨sv, ρ', hp', M', F', h2, hl, he, H', hF, hS, hv⟩ := hpost
      have hle := H.le he
      obtain ⟨tm2, h3, hD2⟩ := putS_den h2 (hD1.mono hle) hv
      refine vcOps_sound hG k0 l tm2 hp' M' K (fun o' ho' => hgs o' (by simp [ho'])) (by omega) h3 ρ' F' w' _ Q H' hD2 (hpd _ _) fun a' w'' hc => hQ _ _ ?_
      obtain ⟨ex, tm', ρ2, hp2, M2, F2, e1, e2, e3, e4, e5, e6, e7, e8, e9⟩ := hc
      exact ⟨ex, tm', ρ2, hp2, M2, F2, e1, e2, e3, (he.mono hk).trans e4, e5, hF.trans e6, hS.trans e7, e8, e9⟩
    · rw [if_neg (by rw [hw]; simp)]
      obtain ⟨tm2, h3, hD2⟩ := putS_den h1 hD1 (show Den ρ (.v undef) undef from rfl)
      exact vcOps_sound hG k0 l tm2 hp M K (fun o' ho' => hgs o' (by simp [ho'])) hk h3 ρ F w _ Q H hD2 (hpd _ _) hQ

/-- The guards of all regions; the plans of those whose order is drawn. -/
def guardsAll (pl : Nat → DT) : Code → Bool
  | .region id ops draw => guardsOK ops && (!draw || (Region.noSelect ops && dtOK .any ops ((cutOf (pl id)).getD (pl id)) true ops.size (Array.replicate ops.size false)))
  | .seq a b => guardsAll pl a && guardsAll pl b
  | .cond _ a b => guardsAll pl a && guardsAll pl b
  | .block _ c | .loop c => guardsAll pl c
  | _ => true

theorem region_sound {P : Program} {Γ : Nat → Option Trans} (hG : GOK P Γ) (hm : P.follows .mixedOrders = true) {pl : Nat → DT} (k0 : Nat) {id : Nat} {ops : Array Oper} {draw : Bool} {tm : List SV} {hp : List Ent} {M : HL} {K : Ex → List SV → List Ent → HL → Prop}
    (hg : guardsAll pl (.region id ops draw) = true) (hk : k0 ≤ hp.length) (h : vReg Γ draw (ops.toList.map (cpo P ops)) (if draw then (cutOf (pl id)).getD (pl id) else .done) tm hp M K)
    {ρ : Nat → Loc} {F : HL} {w : World} {a : Act} (H : Holds ρ hp M F w) (hD : DenL ρ tm a.tmps.toList) (hd : a.defers = []) : (Code.region id ops draw).wp P (CPost K k0 ρ M F w) a w := by
    cases draw with
    | true =>
      simp only [guardsAll, Bool.and_eq_true, Bool.not_true, Bool.false_or] at hg
      change vDT Γ _ ((cutOf (pl id)).getD (pl id)) [] tm hp M (K .normal) at h
      refine wp_region_any hm (wpAny_of_T _ _ _ _ ((vDT_sound hG hg.2.1 (guards_spec hg.1) (fun c a w h => ?_) k0 ((cutOf (pl id)).getD (pl id)) (K .normal)).1 _ _ hg.2.2 [] [] tm hp M hk h ρ F _ a (holds_drawn H) hD trivial hd (fun tm' ρ' hp' M' F' a' w' h1 h2 h3 h4 h5 h6 h7 h8 => ⟨.normal, tm', ρ', hp', M', F', rfl, h1, h2, h3, h4, h5, ⟨h6.os, h6.tape, h6.output, h6.size⟩, h7, h8⟩)))
      obtain ⟨ex, _, _, _, _, _, e1, _⟩ := h
      cases ex <;> cases e1
    | false =>
      simp only [guardsAll, Bool.not_false, Bool.true_or, Bool.and_true] at hg
      change vcOps Γ _ tm hp M (K .normal) at h
      refine wp_region_list (vcOps_sound hG k0 ops.toList tm hp M _ (guards_spec hg) hk h ρ F w a _ H hD hd fun a' w' hc => ?_)
      obtain ⟨ex, tm', ρ2, hp2, M2, F2, e1, ⟨rfl, e2⟩, e3⟩ := hc
      exact ⟨.normal, tm', ρ2, hp2, M2, F2, rfl, e2, e3⟩

theorem vc_sound {P : Program} {Γ : Nat → Option Trans} (hG : GOK P Γ) (hm : P.follows .mixedOrders = true) (pl : Nat → DT) (k0 : Nat) : ∀ (c : Code) (tm : List SV) (hp : List Ent) (M : HL) (K : Ex → List SV → List Ent → HL → Prop), guardsAll pl c = true → k0 ≤ hp.length → vc Γ k0 (ccode P pl c) tm hp M K →
    ∀ (ρ : Nat → Loc) (F : HL) (w : World) (a : Act), Holds ρ hp M F w → DenL ρ tm a.tmps.toList → a.defers = [] → c.wp P (CPost K k0 ρ M F w) a w := by
  intro c
  induction c with
  | skip => intro tm hp M K _ hk h ρ F w a H hD hd; exact wp_skip ⟨.normal, tm, ρ, hp, M, F, rfl, h, hk, Ext.refl _ _, H, Gr.refl M F, Same.refl w, hD, hd⟩
  | ret => intro tm hp M K _ hk h ρ F w a H hD hd; exact wp_ret ⟨.ret, tm, ρ, hp, M, F, rfl, h, hk, Ext.refl _ _, H, Gr.refl M F, Same.refl w, hD, hd⟩
  | exit id => intro tm hp M K _ hk h ρ F w a H hD hd; exact wp_exit ⟨.exit id, tm, ρ, hp, M, F, rfl, h, hk, Ext.refl _ _, H, Gr.refl M F, Same.refl w, hD, hd⟩
  | region id ops draw =>
    intro tm hp M K hg hk h ρ F w a H hD hd
    have hreg : ∀ (K : Ex → List SV → List Ent → HL → Prop), vReg Γ draw (ops.toList.map (cpo P ops)) (if draw then (cutOf (pl id)).getD (pl id) else .done) tm hp M K → (Code.region id ops draw).wp P (CPost K k0 ρ M F w) a w :=
      fun K h => region_sound hG hm k0 hg hk h H hD hd
    cases hc : cutOf (pl id) with
    | none =>
      have e : ccode P pl (.region id ops draw) = .ops draw (ops.toList.map (cpo P ops)) (if draw then pl id else .done) := by simp only [ccode, hc]
      rw [e] at h
      rw [hc] at hreg
      exact hreg K h
    | some r =>
      have e : ccode P pl (.region id ops draw) = .cut (.ops draw (ops.toList.map (cpo P ops)) (if draw then r else .done)) := by simp only [ccode, hc]
      rw [e] at h
      rw [hc] at hreg
      change vCut k0 .skip (vReg Γ draw (ops.toList.map (cpo P ops)) (if draw then r else .done)) tm hp M K at h
      obtain ⟨I, h1, h2⟩ := h
      refine wp_mono (hreg _ h1) fun e a' w' hc => ?_
      obtain ⟨ex, tm', ρ', hp', M', F', e1, e2, e3, e4, e5, e6, e7, e8, e9⟩ := hc
      cases ex with
      | normal =>
        subst e1
        obtain ⟨m, tm3, hp3, hwk⟩ := e2
        obtain ⟨hI, ρ3, H3, hD3, hE3, hk3⟩ := Wk_spec hwk e5 e8
        exact ⟨.normal, tm3, ρ3, hp3, M', F', rfl, h2 _ _ _ hI, hk3, e4.trans hE3, H3, e6, e7, hD3, e9⟩
      | exit id => subst e1; exact ⟨.exit id, tm', ρ', hp', M', F', rfl, e2, e3, e4, e5, e6, e7, e8, e9⟩
      | ret => subst e1; exact ⟨.ret, tm', ρ', hp', M', F', rfl, e2, e3, e4, e5, e6, e7, e8, e9⟩
  | seq x y ihx ihy =>
    intro tm hp M K hg hk h ρ F w a H hD hd
    simp only [guardsAll, Bool.and_eq_true] at hg
    change vSeq (ccode P pl x) (ccode P pl y) (vc Γ k0 (ccode P pl x)) (vc Γ k0 (ccode P pl y)) tm hp M K at h
    unfold vSeq at h
    refine wp_seq (wp_mono (ihx tm hp M _ hg.1 hk h ρ F w a H hD hd) fun e a' w' hc => ?_)
    obtain ⟨ex, tm', ρ', hp', M', F', e1, e2, e3, e4, e5, e6, e7, e8, e9⟩ := hc
    cases ex with
    | normal =>
      subst e1
      refine wp_mono (ihy tm' hp' M' K hg.2 e3 e2 ρ' F' w' a' e5 e8 e9) fun e a2 w2 hc => ?_
      obtain ⟨ex, tm2, ρ2, hp2, M2, F2, f1, f2, f3, f4, f5, f6, f7, f8, f9⟩ := hc
      exact ⟨ex, tm2, ρ2, hp2, M2, F2, f1, f2, f3, e4.trans f4, f5, e6.trans f6, e7.trans f7, f8, f9⟩
    | exit id => subst e1; exact ⟨.exit id, tm', ρ', hp', M', F', rfl, e2, e3, e4, e5, e6, e7, e8, e9⟩
    | ret => subst e1; exact ⟨.ret, tm', ρ', hp', M', F', rfl, e2, e3, e4, e5, e6, e7, e8, e9⟩
  | cond c x y ihx ihy =>
    intro tm hp M K hg hk h ρ F w a H hD hd
    simp only [guardsAll, Bool.and_eq_true] at hg
    change vCond (carg c) (ccode P pl x) (ccode P pl y) (vc Γ k0 (ccode P pl x)) (vc Γ k0 (ccode P pl y)) tm hp M K at h
    unfold vCond at h
    have hc := ev_den hD c
    split at h
    · rename_i t he
      rw [he] at hc
      simp only [Den] at hc
      cases t with
      | true => exact wp_cond_true hc.symm (ihx tm hp M K hg.1 hk (h.t rfl) ρ F w a H hD hd)
      | false => exact wp_cond_false hc.symm (ihy tm hp M K hg.2 hk (h.f rfl) ρ F w a H hD hd)
    · exact h.elim
  | block id c ih =>
    intro tm hp M K hg hk h ρ F w a H hD hd
    change vBlock id (ccode P pl c) (vc Γ k0 (ccode P pl c)) tm hp M K at h
    unfold vBlock at h
    refine wp_block (wp_mono (ih tm hp M _ hg hk h ρ F w a H hD hd) fun e a' w' hc => ?_)
    obtain ⟨ex, tm', ρ', hp', M', F', e1, e2, e3⟩ := hc
    cases ex with
    | normal => subst e1; exact ⟨.normal, tm', ρ', hp', M', F', rfl, e2, e3⟩
    | ret => subst e1; exact ⟨.ret, tm', ρ', hp', M', F', rfl, e2, e3⟩
    | exit j =>
      subst e1
      simp only [Exit.inBlock]
      dsimp only at e2
      split at e2
      · rename_i hj
        have hj := Nat.eq_of_beq_eq_true hj
        rw [if_pos hj]
        exact ⟨.normal, tm', ρ', hp', M', F', rfl, e2, e3⟩
      · rename_i hj
        rw [if_neg (Nat.ne_of_beq_eq_false hj)]
        exact ⟨.exit j, tm', ρ', hp', M', F', rfl, e2, e3⟩
  | loop c ih =>
    intro tm hp M K hg hk h ρ F w a H hD hd
    change vLoop k0 (ccode P pl c) (vc Γ k0 (ccode P pl c)) tm hp M K at h
    unfold vLoop at h
    obtain ⟨I, ⟨n, m, tm1, hp1, hwk⟩, hround⟩ := h
    obtain ⟨hI, ρ1, H1, hD1, hE1, hk1⟩ := Wk_spec hwk H hD
    refine wp_loopN (fun n a' w' => ∃ tm' ρ' hp' M' F', I n tm' hp' M' ∧ k0 ≤ hp'.length ∧ Ext k0 ρ ρ' ∧ Holds ρ' hp' M' F' w' ∧ Gr M F M' F' ∧ Same w w' ∧ DenL ρ' tm' a'.tmps.toList ∧ a'.defers = [])
      (fun n a' w' hI => ?_) (n := n) ⟨tm1, ρ1, hp1, M, F, hI, hk1, hE1, H1, Gr.refl M F, Same.refl w, hD1, hd⟩
    obtain ⟨tm2, ρ2, hp2, M2, F2, hI, hk2, hE2, H2, hF2, hS2, hD2, hd2⟩ := hI
    refine wp_mono (ih tm2 hp2 M2 _ hg hk2 (hround n tm2 hp2 M2 hI) ρ2 F2 w' a' H2 hD2 hd2) fun e a3 w3 hc => ?_
    obtain ⟨ex, tm3, ρ3, hp3, M3, F3, e1, e2, e3, e4, e5, e6, e7, e8, e9⟩ := hc
    cases ex with
    | normal =>
      subst e1
      obtain ⟨n', m', tm4, hp4, hlt, hwk'⟩ := e2
      obtain ⟨hI', ρ4, H4, hD4, hE4, hk4⟩ := Wk_spec hwk' e5 e8
      exact ⟨n', hlt, tm4, ρ4, hp4, M3, F3, hI', hk4, (hE2.trans e4).trans hE4, H4, hF2.trans e6, hS2.trans e7, hD4, e9⟩
    | exit id => subst e1; exact ⟨.exit id, tm3, ρ3, hp3, M3, F3, rfl, e2, e3, hE2.trans e4, e5, hF2.trans e6, hS2.trans e7, e8, e9⟩
    | ret => subst e1; exact ⟨.ret, tm3, ρ3, hp3, M3, F3, rfl, e2, e3, hE2.trans e4, e5, hF2.trans e6, hS2.trans e7, e8, e9⟩
  | _ => intro tm hp M K _ hk h; exact h.elim
end Go.Vc
