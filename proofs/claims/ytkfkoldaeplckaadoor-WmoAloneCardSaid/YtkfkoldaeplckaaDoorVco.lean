/-
  Symbolic execution, part Z: what holds of operations anywhere holds of them in a round of a range over a function.
-/
import Derived.Test.YtkfkoldaeplckaaDoorVcq
import Derived.OrdersIn
import Derived.TacticsIn
import Derived.RangeFuncIn
import Derived.RangeFuncLeaves
import Derived.RangeFuncRecord
import Derived.RangeFuncSeq
set_option linter.unusedSimpArgs false
set_option linter.unusedVariables false

namespace Go.Vc

/-- No bars at all; the frame's make. -/
def Wd (ro : Option Nat) : Fence := { Fence.wide with round := ro }
theorem stepsIn_wd {P : Program} {ro : Option Nat} {m m' : Machine} : StepsIn (Machine.fenced P (Wd ro)) P m m' ↔ Steps P m m' := stepsIn_wide
theorem room_wd (ro : Option Nat) (n : Nat) : (Wd ro).room n := room_wide n
theorem callsIn_wd {ro : Option Nat} {n : Nat} {P : Program} {f : FuncId} {args : Array Value} {w : World} {R : Ending → World → Prop} : CallsIn (Wd ro) n P f args w R ↔ Calls P f args w R := callsIn_wide
theorem rowsIn_wd {ro : Option Nat} {n : Nat} {P : Program} {row : String} {args : Array Value} {w : World} {R : Value → World → Prop} (h : Rows P row args w R) : Go.RowsIn (Wd ro) n P row args w R :=
  fun c cs _ => by
    obtain ⟨v, w', hR, hs⟩ := h c cs
    exact ⟨v, w', hR, stepsIn_wd.2 hs⟩

def noDefer (ops : Array Oper) : Bool := ops.toList.all fun o => match o.op with | .defer _ => false | _ => true
theorem noDefer_spec {ops : Array Oper} (h : noDefer ops = true) : ∀ o ∈ ops.toList, ∀ c, o.op ≠ .defer c := by
  intro o ho c hc
  have := List.all_eq_true.1 h o ho
  rw [hc] at this
  cases this

section
variable {ro : Option Nat} {n : Nat} {P : Program} {ops : Array Oper} {Q : Exit → Act → World → Prop}

theorem op_in {o : Oper} {a : Act} {w : World} {K : Act → World → Prop} (hd : ∀ c, o.op ≠ .defer c) (h : o.wp P a w K Q) : o.wpIn (Wd ro) n P a w K Q := by
  refine ⟨fun _ _ => trivial, ?_⟩
  rw [Oper.semAt_eq _ _ _ hd]
  unfold Oper.wp at h
  generalize (execOp a.eval o).run P w = r at h ⊢
  cases r with
  | ok x w' =>
    cases x with
    | enter f args => exact ⟨fun h => (by cases h), callsIn_wd.2 h⟩
    | row row args => exact ⟨fun h => (by cases h), rowsIn_wd h⟩
    | _ => first | exact h | exact h.elim
  | halt x w' => cases x <;> first | exact h | exact h.elim

theorem list_in (hQ : ¬ LetsOut Q) : ∀ (l : List Oper) (_ : ∀ o ∈ l, ∀ c, o.op ≠ .defer c) (a : Act) (w : World), wpList P ops Q l a w → wpListIn (Wd ro) n P ops Q l a w
  | [], _, _, _, h => h
  | o :: l, hd, a, w, h => by
    unfold wpList at h
    unfold wpListIn
    split
    · rename_i hw
      rw [if_pos hw] at h
      rcases h with h | h
      · exact Oper.wpIn_mono (fun a w h => list_in hQ l (fun o ho => hd o (by simp [ho])) a w h) (op_in (hd o (by simp)) h)
      · exact absurd h.2 hQ
    · rename_i hw
      rw [if_neg hw] at h
      exact ⟨fun _ _ => trivial, list_in hQ l (fun o ho => hd o (by simp [ho])) _ w h⟩

theorem wpOp_in (hQ : ¬ LetsOut Q) (hd : ∀ o ∈ ops.toList, ∀ c, o.op ≠ .defer c) {i : Nat} {K K' : Act → World → Prop} {a : Act} {w : World} (hK : ∀ a w, K a w → K' a w) (h : wpOp P ops Q i K a w) : wpOpIn (Wd ro) n P ops Q i K' a w := by
  unfold wpOp at h
  unfold wpOpIn
  cases ho : ops[i]? with
  | none => rw [ho] at h; exact hK _ _ h
  | some o =>
    rw [ho] at h
    dsimp only at h ⊢
    have hm : o ∈ ops.toList := by
      have := Array.getElem?_eq_some_iff.1 ho
      obtain ⟨hlt, he⟩ := this
      rw [← he]
      exact Array.mem_toList_iff.2 (Array.getElem_mem hlt)
    split
    · rename_i hw
      rw [if_pos hw] at h
      rcases h with h | h
      · exact Oper.wpIn_mono hK (op_in (hd o hm) h)
      · exact absurd h.2 hQ
    · rename_i hw
      rw [if_neg hw] at h
      exact ⟨fun _ _ => trivial, hK _ _ h⟩

theorem any_in {md : Region.Mode} (hQ : ¬ LetsOut Q) (hd : ∀ o ∈ ops.toList, ∀ c, o.op ≠ .defer c) : ∀ (fuel : Nat) (listed : Array Bool) (a : Act) (w : World), wpAny P md ops Q fuel listed a w → wpAnyIn (Wd ro) n P md ops Q fuel listed a w
  | 0, _, _, _, h => h
  | fuel + 1, _, _, _, h => ⟨h.1, fun i hi => wpOp_in hQ hd (fun a w h => any_in hQ hd fuel _ a w h) (h.2 i hi)⟩
end

theorem wpIn_loopN {F : Fence} {m : Nat} {P : Program} {c : Code} {Q : Exit → Act → World → Prop} (I : Nat → Act → World → Prop)
    (round : ∀ n a w, I n a w → c.wpIn F m P (Exit.then (fun a' w' => ∃ n', n' < n ∧ I n' a' w') Q) a w) {n : Nat} {a : Act} {w : World} (h : I n a w) : (Code.loop c).wpIn F m P Q a w := by
  intro b k cs hro hb hr
  have key : ∀ n a w, I n a w → ∃ e a' w', Q e a' w' ∧ ArrivesIn (Machine.fenced P F) P (lone (b.atR a (.code c :: .inLoop c :: k)) cs w) b k cs e a' w' := by
    intro n
    induction n using Nat.strongRecOn with
    | _ n ih =>
      intro a w hI
      obtain ⟨e, a1, w1, hq, harr⟩ := round n a w hI b (.inLoop c :: k) cs hro hb hr
      cases e with
      | normal =>
        obtain ⟨n', hlt, hI'⟩ := hq
        obtain ⟨e2, a2, w2, hq2, harr2⟩ := ih n' hlt _ _ hI'
        exact ⟨e2, a2, w2, hq2, .of_steps (StepsIn.trans harr (.one (fenced_calm (fr := b.atR a1 (.inLoop c :: k)) hb hr rfl) stepR_inLoop)) harr2⟩
      | exit id => exact ⟨_, a1, w1, hq, .pass (x := .inLoop c) rfl (fun _ _ => .inl (by simp)) harr⟩
      | goto l => exact ⟨_, a1, w1, hq, .pass (x := .inLoop c) rfl (fun _ _ => .inl (by simp)) harr⟩
      | ret => exact ⟨_, a1, w1, hq, .pass (x := .inLoop c) rfl (fun _ _ => .inl (by simp)) harr⟩
      | panic ch => exact ⟨_, a1, w1, hq, .pass (x := .inLoop c) rfl (fun _ _ => .inl (by simp)) harr⟩
      | outgrown => exact ⟨_, a1, w1, hq, .pass (x := .inLoop c) rfl (fun _ _ => .inl (by simp)) harr⟩
  obtain ⟨e, a', w', hq, harr⟩ := key n a w h
  exact ⟨e, a', w', hq, .of_steps (.one (fenced_calm (fr := b.atR a (.code (.loop c) :: k)) hb hr rfl) stepR_loop) harr⟩
end Go.Vc
/-
  Symbolic execution, part N: code is sound.
-/
namespace Go.Vc

/-- The mark of a range over a function among the calls that wait for the return. -/
def coll (D : Nat) : Deferred := { target := .collected D, args := #[] }
def Mrk (d0 : List Deferred) (F M' F' : HL) (d : List Deferred) : Prop :=
  ∃ ds : List Nat, d = ds.map coll ++ d0 ∧ ds.Nodup ∧ ∀ D ∈ ds, F' D = some (.deferred (some [])) ∧ F D = none ∧ M' D = none
theorem Mrk.refl (d0 : List Deferred) (F M' F' : HL) : Mrk d0 F M' F' d0 := ⟨[], rfl, by simp, fun _ h => by cases h⟩
theorem Mrk.of_eq {d0 d : List Deferred} {F M' F' : HL} (h : d = d0) : Mrk d0 F M' F' d := h ▸ Mrk.refl d0 F M' F'
theorem Mrk.le {d0 d : List Deferred} {F F1 M' F' : HL} (h : Mrk d0 F1 M' F' d) (hF : FLe F F1) : Mrk d0 F M' F' d := by
  obtain ⟨ds, h1, h2, h3⟩ := h
  refine ⟨ds, h1, h2, fun D hD => ⟨(h3 D hD).1, ?_, (h3 D hD).2.2⟩⟩
  cases hf : F D with
  | none => rfl
  | some o => rw [← (h3 D hD).2.1, hF D o hf]
theorem Mrk.trans {d0 d1 d2 : List Deferred} {F M1 F1 M2 F2 : HL} (h1 : Mrk d0 F M1 F1 d1) (h2 : Mrk d1 F1 M2 F2 d2) (g1 : FLe F F1) (g2 : Gr M1 F1 M2 F2) : Mrk d0 F M2 F2 d2 := by
  obtain ⟨x, e1, n1, p1⟩ := h1
  obtain ⟨y, e2, n2, p2⟩ := h2
  refine ⟨y ++ x, by rw [e2, e1, List.map_append, List.append_assoc], ?_, fun D hD => ?_⟩
  · refine List.nodup_append.2 ⟨n2, n1, fun a ha b hb hab => ?_⟩
    subst hab
    have := (p1 a hb).1
    rw [(p2 a ha).2.1] at this
    cases this
  · rcases List.mem_append.1 hD with h | h
    · refine ⟨(p2 D h).1, ?_, (p2 D h).2.2⟩
      cases hf : F D with
      | none => rfl
      | some o => rw [← (p2 D h).2.1, g1 D o hf]
    · refine ⟨g2.fr _ _ (p1 D h).1, (p1 D h).2.1, ?_⟩
      cases hm : M2 D with
      | none => rfl
      | some o =>
        rcases g2.n D o hm with h3 | h3
        · rw [(p1 D h).2.2] at h3; cases h3
        · rw [(p1 D h).1] at h3; cases h3

/-- What stands behind a piece of code. -/
def CPost (K : Ex → List SV → List Ent → HL → Prop) (k0 : Nat) (ρ : Nat → Loc) (M F : HL) (w : World) (d0 : List Deferred) (e : Exit) (a' : Act) (w' : World) : Prop :=
  ∃ ex tm' ρ' hp' M' F', (e = match ex with | .normal => .normal | .exit id => .exit id | .ret => .ret) ∧ K ex tm' hp' M' ∧ k0 ≤ hp'.length ∧ Ext k0 ρ ρ' ∧ Holds ρ' hp' M' F' w' ∧ Gr M F M' F' ∧ Same w w' ∧ DenL ρ' tm' a'.tmps.toList ∧ Mrk d0 F M' F' a'.defers
theorem Holds.put {ρ : Nat → Loc} {hp : List Ent} {M F F2 : HL} {w : World} {D : Nat} {o' : Obj} (H : Holds ρ hp M F w) (hn : ∀ n, ¬ owns ρ hp n D)
    (hF2 : ∀ k o, F2 k = some o → (w.putObj D o').heap[k]? = some o) (hsub : ∀ k o, M k = some o → F2 k = some o) (hout : ∀ n b, owns ρ hp n b → F2 b = none) : Holds ρ hp M F2 (w.putObj D o') := by
  refine ⟨fun n e he => ?_, H.sep, hout, hF2, hsub, H.dom⟩
  have h := H.ent n e he
  have hne : ∀ b base cap, e.own = true → Lies (ρ n) e b base cap → (w.putObj D o').heap[b]? = w.heap[b]? := fun b base cap ho hr =>
    World.putObj_heap_other fun hb => hn n (hb ▸ ⟨e, base, cap, he, ho, hr⟩)
  cases e with
  | gone => trivial
  | cells e vs =>
    obtain ⟨b, cap, cs, h1, h2, h3⟩ := h
    exact ⟨b, cap, cs, h1, by rw [hne b 0 cap rfl h1]; exact h2, h3⟩
  | rcells e vs => exact h
  | sub own N =>
    intro b o hN
    obtain ⟨h1, h2⟩ := h b o hN
    refine ⟨h1, ?_⟩
    cases own with
    | true => simp only [if_true] at h2 ⊢; exact (hne b 0 0 rfl ⟨o, hN⟩).trans h2
    | false => exact h2
  | row own e ck rows =>
    obtain ⟨h1, h2⟩ := h
    refine ⟨h1, ?_⟩
    cases hr : ρ n with
    | none => rw [hr] at h2; exact h2
    | some x =>
      obtain ⟨b, base, cap⟩ := x
      rw [hr] at h2
      obtain ⟨cur, fr, h3, h4⟩ := h2
      refine ⟨cur, fr, ?_, h4⟩
      cases own with
      | true => exact ⟨by rw [hne b base cap rfl hr]; exact h3.1, h3.2⟩
      | false => exact h3

theorem CPost.noOut {K : Ex → List SV → List Ent → HL → Prop} {k0 : Nat} {ρ : Nat → Loc} {M F : HL} {w : World} {d0 : List Deferred} : ¬ LetsOut (CPost K k0 ρ M F w d0) := by
  rintro ⟨a, w, ex, _, _, _, _, _, h, _⟩
  cases ex <;> cases h

theorem vcOps_sound {P : Program} {Γ : Nat → Option Trans} (hG : GOK P Γ) {ops : Array Oper} {d0 : List Deferred} (k0 : Nat) : ∀ (l : List Oper) (tm : List SV) (hp : List Ent) (M : HL) (K : List SV → List Ent → HL → Prop),
    (∀ o ∈ l, ∀ j want, o.guard = some (j, want) → ((ops[j]?).bind (·.dst)).isSome = true) → k0 ≤ hp.length → vcOps Γ (l.map (cpo P ops)) tm hp M K →
    ∀ (ρ : Nat → Loc) (F : HL) (w : World) (a : Act) (Q : Exit → Act → World → Prop), Holds ρ hp M F w → DenL ρ tm a.tmps.toList → a.defers = d0 →
    (∀ a' w', CPost (fun e tm hp M => e = .normal ∧ K tm hp M) k0 ρ M F w d0 .normal a' w' → Q .normal a' w') → wpList P ops Q l a w
  | [], tm, hp, M, K, _, hk, h, ρ, F, w, a, Q, H, hD, hd, hQ => by
    change K tm hp M at h
    exact hQ _ _ ⟨.normal, tm, ρ, hp, M, F, rfl, ⟨rfl, h⟩, hk, Ext.refl _ _, H, Gr.refl M F, Same.refl w, hD, .of_eq hd⟩
  | o :: l, tm, hp, M, K, hgs, hk, h, ρ, F, w, a, Q, H, hD, hd, hQ => by
    change gate (cpo P ops o).guard tm (fun tm => vcOp Γ (cpo P ops o).op tm hp M fun v hp' M' => putS (cpo P ops o).dst v tm fun tm' => vcOps Γ (l.map (cpo P ops)) tm' hp' M' K) (fun tm => putS (cpo P ops o).dst (.v undef) tm fun tm' => vcOps Γ (l.map (cpo P ops)) tm' hp M K) at h
    have hpd : ∀ d v, (a.put d v).defers = d0 := fun d v => by cases d <;> exact hd
    obtain ⟨tm1, hD1, hor⟩ := gate_spec (o := o) (ops := ops) h hD (hgs o (by simp))
    unfold wpList
    rcases hor with ⟨hw, h1⟩ | ⟨hw, h1⟩
    · rw [if_pos hw]
      refine .inl (vcOp_sound hG H hD1 h1 _ _ fun v w' hpost => ?_)
      obtain ⟨sv, ρ', hp', M', F', h2, hl, he, H', hF, hS, hv⟩ := hpost
      have hle := H.le he
      obtain ⟨tm2, h3, hD2⟩ := putS_den h2 (hD1.mono hle) hv
      refine vcOps_sound hG k0 l tm2 hp' M' K (fun o' ho' => hgs o' (by simp [ho'])) (by omega) h3 ρ' F' w' _ Q H' hD2 (hpd _ _) fun a' w'' hc => hQ _ _ ?_
      obtain ⟨ex, tm', ρ2, hp2, M2, F2, e1, e2, e3, e4, e5, e6, e7, e8, e9⟩ := hc
      exact ⟨ex, tm', ρ2, hp2, M2, F2, e1, e2, e3, (he.mono hk).trans e4, e5, hF.trans e6, hS.trans e7, e8, e9.le hF.fr⟩
    · rw [if_neg (by rw [hw]; simp)]
      obtain ⟨tm2, h3, hD2⟩ := putS_den h1 hD1 (show Den ρ (.v undef) undef from rfl)
      exact vcOps_sound hG k0 l tm2 hp M K (fun o' ho' => hgs o' (by simp [ho'])) hk h3 ρ F w _ Q H hD2 (hpd _ _) hQ

/-- No range over a function. -/
def noRange : Code → Bool
  | .rangeFunc .. => false
  | .seq a b | .cond _ a b => noRange a && noRange b
  | .block _ c | .loop c => noRange c
  | _ => true
/-- The guards of all regions; the plans of those whose order is drawn. -/
def guardsAll (pl : Nat → DT) : Code → Bool
  | .region id ops draw => guardsOK ops && noDefer ops && (!draw || (Region.noSelect ops && dtOK .any ops ((cutOf (pl id)).getD (pl id)) true ops.size (Array.replicate ops.size false)))
  | .seq a b => guardsAll pl a && guardsAll pl b
  | .cond _ a b => guardsAll pl a && guardsAll pl b
  | .block _ c | .loop c => guardsAll pl c
  | .rangeFunc _ _ a b => guardsAll pl a && guardsAll pl b && noRange a && noRange b
  | _ => true

theorem region_sound {P : Program} {Γ : Nat → Option Trans} (hG : GOK P Γ) (hm : P.follows .mixedOrders = true) {pl : Nat → DT} (k0 : Nat) {ro : Option Nat} {n : Nat} {id : Nat} {ops : Array Oper} {draw : Bool} {tm : List SV} {hp : List Ent} {M : HL} {K : Ex → List SV → List Ent → HL → Prop}
    (hg : guardsAll pl (.region id ops draw) = true) (hk : k0 ≤ hp.length) (h : vReg Γ draw (ops.toList.map (cpo P ops)) (if draw then (cutOf (pl id)).getD (pl id) else .done) tm hp M K)
    {ρ : Nat → Loc} {F : HL} {w : World} {a : Act} (H : Holds ρ hp M F w) (hD : DenL ρ tm a.tmps.toList) : (Code.region id ops draw).wpIn (Wd ro) n P (CPost K k0 ρ M F w a.defers) a w := by
    simp only [guardsAll, Bool.and_eq_true] at hg
    have hnd := noDefer_spec hg.1.2
    cases draw with
    | true =>
      simp only [Bool.and_eq_true, Bool.not_true, Bool.false_or] at hg
      change vDT Γ _ ((cutOf (pl id)).getD (pl id)) [] tm hp M (K .normal) at h
      refine wpIn_region_any hm (any_in CPost.noOut hnd _ _ _ _ (wpAny_of_T _ _ _ _ ((vDT_sound (d0 := a.defers) hG hg.2.1 (guards_spec hg.1.1) (fun c a w h => ?_) k0 ((cutOf (pl id)).getD (pl id)) (K .normal)).1 _ _ hg.2.2 [] [] tm hp M hk h ρ F _ a (holds_drawn H) hD trivial rfl (fun tm' ρ' hp' M' F' a' w' h1 h2 h3 h4 h5 h6 h7 h8 => ⟨.normal, tm', ρ', hp', M', F', rfl, h1, h2, h3, h4, h5, ⟨h6.os, h6.tape, h6.output, h6.size⟩, h7, .of_eq h8⟩))))
      obtain ⟨ex, _, _, _, _, _, e1, _⟩ := h
      cases ex <;> cases e1
    | false =>
      change vcOps Γ _ tm hp M (K .normal) at h
      refine wpIn_region_list (list_in CPost.noOut _ hnd _ _ (vcOps_sound (d0 := a.defers) hG k0 ops.toList tm hp M _ (guards_spec hg.1.1) hk h ρ F w a _ H hD rfl fun a' w' hc => ?_))
      obtain ⟨ex, tm', ρ2, hp2, M2, F2, e1, ⟨rfl, e2⟩, e3⟩ := hc
      exact ⟨.normal, tm', ρ2, hp2, M2, F2, rfl, e2, e3⟩

/-- What is shown of a piece of code. -/
def Sound (P : Program) (Γ : Nat → Option Trans) (pl : Nat → DT) (c : Code) : Prop :=
  ∀ (ro : Option Nat) (n k0 : Nat) (tm : List SV) (hp : List Ent) (M : HL) (K : Ex → List SV → List Ent → HL → Prop), (ro = none ∨ noRange c = true) → guardsAll pl c = true → k0 ≤ hp.length → vc Γ k0 (ccode P pl c) tm hp M K →
    ∀ (ρ : Nat → Loc) (F : HL) (w : World) (a : Act), Holds ρ hp M F w → DenL ρ tm a.tmps.toList → c.wpIn (Wd ro) n P (CPost K k0 ρ M F w a.defers) a w

end Go.Vc
/-
  Symbolic execution, part N2: slices.Backward's closure, walked for whatever a round keeps.
-/
namespace Go.Vc
set_option maxRecDepth 10000

def backA : List PO := [⟨some 4, .load none (.t 1), none⟩, ⟨some 5, .len (.t 4), none⟩, ⟨some 6, .bin .sub (.t 5) (.c (.v (.int .i64 1))), none⟩, ⟨some 3, .mov (.t 6), none⟩]
def backB : List PO := [⟨some 7, .mov (.t 3), none⟩, ⟨some 8, .bin .geq (.t 7) (.c (.v (.int .i64 0))), none⟩]
def backC (s : Option Nat) : List PO := [⟨some 11, .mov (.t 0), none⟩, ⟨some 12, .mov (.t 3), none⟩, ⟨some 13, .load none (.t 1), none⟩, ⟨some 14, .mov (.t 3), none⟩, ⟨some 15, .idx (s.getD 1) (.t 13) (.t 14), none⟩,
  ⟨some 16, .load s (.t 15), none⟩, ⟨some 17, .callv (.t 11) [.t 12, .t 16], none⟩, ⟨some 18, .un .not (.t 17), none⟩]
def backD : List PO := [⟨some 9, .mov (.t 3), none⟩, ⟨some 10, .bin .sub (.t 9) (.c (.v (.int .i64 1))), none⟩, ⟨some 3, .mov (.t 10), none⟩]
def backPC (s : Option Nat) : PCode := .seq (.ops false backA .done) (.block 0 (.loop (.seq (.seq (.ops false backB .done) (.cond (.t 8) .skip (.exit 0)))
  (.seq (.block 1 (.seq (.ops false (backC s) .done) (.cond (.t 18) .ret .skip))) (.ops false backD .done)))))
def IsBack (P : Program) (g : Nat) (s : Option Nat) : Prop :=
  ∃ fn c pl, P.funcs[g]? = some fn ∧ fn.body = some c ∧ (fn.name == "runtime.NumGoroutine") = false ∧ fn.ntmps = 19 ∧ fn.results = #[] ∧ ccode P pl c = backPC s ∧ guardsAll pl c = true

section inv
variable {P : Program} {pl : Nat → DT} {c : Code}
theorem inv_seq {a b : PCode} (h : ccode P pl c = .seq a b) : ∃ x y, c = .seq x y ∧ ccode P pl x = a ∧ ccode P pl y = b := by
  cases c with
  | seq x y => simp only [ccode, PCode.seq.injEq] at h; exact ⟨x, y, rfl, h.1, h.2⟩
  | region id ops draw => simp only [ccode] at h; split at h <;> cases h
  | _ => simp only [ccode] at h; cases h
theorem inv_block {i : Nat} {b : PCode} (h : ccode P pl c = .block i b) : ∃ x, c = .block i x ∧ ccode P pl x = b := by
  cases c with
  | block j x => simp only [ccode, PCode.block.injEq] at h; exact ⟨x, by rw [h.1], h.2⟩
  | region id ops draw => simp only [ccode] at h; split at h <;> cases h
  | _ => simp only [ccode] at h; cases h
theorem inv_loop {b : PCode} (h : ccode P pl c = .loop b) : ∃ x, c = .loop x ∧ ccode P pl x = b := by
  cases c with
  | loop x => simp only [ccode, PCode.loop.injEq] at h; exact ⟨x, rfl, h⟩
  | region id ops draw => simp only [ccode] at h; split at h <;> cases h
  | _ => simp only [ccode] at h; cases h
theorem inv_cond {t : PArg} {a b : PCode} (h : ccode P pl c = .cond t a b) : ∃ u x y, c = .cond u x y ∧ carg u = t ∧ ccode P pl x = a ∧ ccode P pl y = b := by
  cases c with
  | cond u x y => simp only [ccode, PCode.cond.injEq] at h; exact ⟨u, x, y, rfl, h.1, h.2.1, h.2.2⟩
  | region id ops draw => simp only [ccode] at h; split at h <;> cases h
  | _ => simp only [ccode] at h; cases h
theorem inv_skip (h : ccode P pl c = .skip) : c = .skip := by
  cases c with
  | skip => rfl
  | region id ops draw => simp only [ccode] at h; split at h <;> cases h
  | _ => simp only [ccode] at h; cases h
theorem inv_ret (h : ccode P pl c = .ret) : c = .ret := by
  cases c with
  | ret => rfl
  | region id ops draw => simp only [ccode] at h; split at h <;> cases h
  | _ => simp only [ccode] at h; cases h
theorem inv_exit {i : Nat} (h : ccode P pl c = .exit i) : c = .exit i := by
  cases c with
  | exit j => simp only [ccode, PCode.exit.injEq] at h; rw [h]
  | region id ops draw => simp only [ccode] at h; split at h <;> cases h
  | _ => simp only [ccode] at h; cases h
theorem inv_ops {l : List PO} (h : ccode P pl c = .ops false l .done) : ∃ id ops, c = .region id ops false ∧ ops.toList.map (cpo P ops) = l := by
  cases c with
  | region id ops draw =>
    simp only [ccode] at h
    split at h
    · cases h
    · simp only [PCode.ops.injEq] at h
      obtain ⟨rfl, h2, _⟩ := h
      exact ⟨id, ops, rfl, h2⟩
  | _ => simp only [ccode] at h; cases h
end inv

section steps
variable {P : Program} {ops : Array Oper} {Q : Exit → Act → World → Prop} {n : Nat} {o : Oper} {l : List Oper} {d : Nat} {a : Act} {w : World} {ρ : Nat → Loc} {hp : List Ent} {M F : HL} {tm : List SV}

theorem no_guard {op : POp} (hg : ∀ j want, o.guard = some (j, want) → ((ops[j]?).bind (·.dst)).isSome = true) (hc : cpo P ops o = ⟨some d, op, none⟩) : o.guard = none ∧ o.dst = some d ∧ cop P o = op := by
  have h1 : o.dst = some d := congrArg PO.dst hc
  have h2 : cop P o = op := congrArg PO.op hc
  have h3 : (o.guard.bind fun (j, want) => ((ops[j]?).bind (·.dst)).map fun t => (t, want)) = none := congrArg PO.guard hc
  refine ⟨?_, h1, h2⟩
  cases hgd : o.guard with
  | none => rfl
  | some x =>
    obtain ⟨j, want⟩ := x
    have := hg j want hgd
    rw [hgd] at h3
    simp only [Option.bind_some, Option.map_eq_none_iff] at h3
    rw [h3] at this
    cases this

theorem st_val (hg : o.guard = none) (hd : ∀ c, o.op ≠ .defer c) {v : Value} (hr : (execOp a.eval o).run P w = .ok (.value v) w) (next : wpListIn (Wd none) n P ops Q l (a.put o.dst v) w) : wpListIn (Wd none) n P ops Q (o :: l) a w :=
  wpListIn_plain hg fun K hK => op_in hd (by unfold Oper.wp; rw [hr]; exact hK _ _ next)

theorem st_pure {op : POp} (sv : SV) (hg : ∀ j want, o.guard = some (j, want) → ((ops[j]?).bind (·.dst)).isSome = true) (hd : ∀ c, o.op ≠ .defer c) (hc : cpo P ops o = ⟨some d, op, none⟩) (hpu : pureO op = true) (H : Holds ρ hp M F w) (hD : DenL ρ tm a.tmps.toList)
    (h : vcOp (fun _ => none) op tm hp M fun v _ _ => v = sv) (next : ∀ a', DenL ρ (tm.set d sv) a'.tmps.toList → a'.defers = a.defers → wpListIn (Wd none) n P ops Q l a' w) : wpListIn (Wd none) n P ops Q (o :: l) a w := by
  obtain ⟨h1, h2, h3⟩ := no_guard hg hc
  rw [← h3] at h hpu
  rcases vcOp_both (P := P) (Γ := fun _ => none) (fun _ _ h => by cases h) H hD h with ⟨v, sv', hr, hk, hv⟩ | ⟨hq, _⟩
  · subst hk
    refine st_val h1 hd (hr w) (next _ ?_ ?_)
    · rw [h2]; simpa [Act.put] using hD.set hv d
    · rw [h2]; rfl
  · rw [hpu] at hq; cases hq

theorem st_load {s : Option Nat} {x : PArg} {ad : Addr} {y : Value} (hg : ∀ j want, o.guard = some (j, want) → ((ops[j]?).bind (·.dst)).isSome = true) (hd : ∀ c, o.op ≠ .defer c) (hc : cpo P ops o = ⟨some d, .load s x, none⟩)
    (hev : ∀ x0, carg x0 = x → a.eval x0 = .pointer (some ad)) (hf : Finds s w ad y) (next : wpListIn (Wd none) n P ops Q l (a.put (some d) y) w) : wpListIn (Wd none) n P ops Q (o :: l) a w := by
  obtain ⟨h1, h2, h3⟩ := no_guard hg hc
  obtain ⟨t, x0, ho, hu, hi, hs, hx⟩ := cop_load h3
  subst hs
  refine st_val h1 hd (load_ok ho hu hi (hev x0 hx.symm) hf) ?_
  rw [h2]
  exact next

theorem inv_callv {x : PArg} {xs : List PArg} (h : cop P o = .callv x xs) : ∃ c g, o.op = .call c ∧ c.callee = .value g ∧ carg g = x ∧ c.args.toList.map carg = xs := by
  unfold cop at h
  cases ho : o.op with
  | call c =>
    simp only [ho] at h
    cases hc : c.callee with
    | value g =>
      simp only [hc] at h
      split at h
      · cases h
      · rename_i g' hg
        cases hg
        simp only [POp.callv.injEq] at h
        exact ⟨c, _, rfl, hc, h.1, h.2⟩
      all_goals (first | cases h | (split at h <;> cases h) | skip)
      all_goals (rename_i hh; cases hh)
    | _ =>
      simp only [hc] at h
      repeat' (first | contradiction | (cases h; done) | split at h)
  | _ =>
    simp only [ho] at h
    repeat' (first | cases h | split at h)

theorem st_yield {l1 : Nat} {k : Int} {y : Value} {R : Ending → World → Prop} (hg : ∀ j want, o.guard = some (j, want) → ((ops[j]?).bind (·.dst)).isSome = true) (hd : ∀ c, o.op ≠ .defer c) (hc : cpo P ops o = ⟨some 17, .callv (.t 11) [.t 12, .t 16], none⟩)
    (h11 : ∀ x0, carg x0 = .t 11 → a.eval x0 = .func (.yield l1) #[] #[]) (h12 : ∀ x0, carg x0 = .t 12 → a.eval x0 = .int .i64 k) (h16 : ∀ x0, carg x0 = .t 16 → a.eval x0 = y)
    (hY : YieldAt (Wd none) (n - 1) P l1 #[.int .i64 k, y] w R) (next : ∀ e w', R e w' → ∃ v, e = .returned v ∧ wpListIn (Wd none) n P ops Q l (a.put (some 17) v) w') : wpListIn (Wd none) n P ops Q (o :: l) a w := by
  obtain ⟨h1, h2, h3⟩ := no_guard hg hc
  obtain ⟨c, g, ho, hcal, hgx, hxs⟩ := inv_callv h3
  obtain ⟨fn, tmps, assign, body, hy, hR⟩ := hY
  have hargs : c.args.map a.eval = #[.int .i64 k, y] := by
    apply Array.ext'
    rw [Array.toList_map]
    match hl : c.args.toList, hxs with
    | [x1, x2], hxs =>
      simp only [List.map_cons, List.map_nil, List.cons.injEq, and_true] at hxs
      simp [h12 x1 hxs.1, h16 x2 hxs.2]
    | [], hxs => simp at hxs
    | [_], hxs => simp at hxs
    | _ :: _ :: _ :: _, hxs => simp at hxs
  have hrun : (execOp a.eval o).run P w = .ok (.round l1 fn tmps assign body) w := by
    simp [execOp, ho, resolve, hcal, h11 g hgx, Deferred.ofValue, invoke, hargs, hy]
  refine wpListIn_plain h1 fun K hK => ⟨fun _ _ => trivial, ?_⟩
  rw [Oper.semAt_eq _ _ _ hd, hrun]
  refine ⟨fun h => (by cases h), hR.mono fun e w' hr => ?_⟩
  obtain ⟨v, rfl, hn⟩ := next e w' hr
  rw [h2]
  exact hK _ _ hn
end steps

def tmI (l bb : Nat) (y : SV) : List SV := [.fn (.yield l) [] [], .v (.pointer (some ⟨bb, 0, none⟩)), .any, y, .any, .any, .any, .any, .any, .any, .any, .any, .any, .any, .any, .any, .any, .any, .any]
theorem tmI_den {l bb : Nat} {ρ : Nat → Loc} {y : SV} {vs : List Value} (hl : vs.length = 19) (h0 : vs[0]? = some (.func (.yield l) #[] #[])) (h1 : vs[1]? = some (.pointer (some ⟨bb, 0, none⟩))) (h3 : ∃ v, vs[3]? = some v ∧ Den ρ y v) : DenL ρ (tmI l bb y) vs := by
  obtain ⟨v3, h3, h4⟩ := h3
  refine DenL.of_get (by rw [hl]; rfl) fun j x v hx hv => ?_
  rcases j with _ | _ | _ | _ | j
  · rw [h0] at hv; cases hv; cases hx; exact ⟨[], [], rfl, trivial, trivial⟩
  · rw [h1] at hv; cases hv; cases hx; rfl
  · cases hx; trivial
  · rw [h3] at hv; cases hv; cases hx; exact h4
  · have : x = .any := by
      rcases j with _ | _ | _ | _ | _ | _ | _ | _ | _ | _ | _ | _ | _ | _ | _ | j <;> first | (cases hx; rfl) | (exact absurd hx (by simp [tmI]))
    rw [this]
    trivial
/-- The slots that the closure keeps. -/
def Keeps3 (l bb : Nat) (vs : List Value) : Prop := vs.length = 19 ∧ vs[0]? = some (.func (.yield l) #[] #[]) ∧ vs[1]? = some (.pointer (some ⟨bb, 0, none⟩))
theorem Keeps3.of {l bb : Nat} {ρ : Nat → Loc} {tm : List SV} {vs : List Value} (h : DenL ρ tm vs) (hl : tm.length = 19) (h0 : tm[0]? = some (.fn (.yield l) [] [])) (h1 : tm[1]? = some (.v (.pointer (some ⟨bb, 0, none⟩)))) : Keeps3 l bb vs := by
  obtain ⟨v0, e0, d0⟩ := h.get h0
  obtain ⟨v1, e1, d1⟩ := h.get h1
  refine ⟨by rw [← h.length, hl], ?_, ?_⟩
  · rw [e0]
    simp only [Den] at d0
    obtain ⟨x, z, rfl, hx, hz⟩ := d0
    have hx0 : x = [] := by cases x with | nil => rfl | cons _ _ => simp [DenL] at hx
    have hz0 : z = [] := by cases z with | nil => rfl | cons _ _ => simp [DenL] at hz
    subst hx0; subst hz0
    rfl
  · rw [e1]
    simp only [Den] at d1
    rw [d1]
theorem carg_t {x : Operand} {j : Nat} (h : carg x = .t j) : x = .tmp j := by
  cases x <;> simp only [carg] at h <;> first | (cases h; rfl) | cases h
theorem eval_t {a : Act} {j : Nat} {v : Value} (h : a.tmps.toList[j]? = some v) (x : Operand) (hx : carg x = .t j) : a.eval x = v := by
  rw [carg_t hx]
  have : a.tmps[j]? = some v := by simpa using h
  simp [Act.eval, Array.getD_eq_getD_getElem?, this]

theorem mem_ops {P : Program} {ops : Array Oper} {l : List PO} (h : ops.toList.map (cpo P ops) = l) {po : PO} {r : List PO} (hl : l = po :: r) : ∃ o rest, ops.toList = o :: rest ∧ cpo P ops o = po ∧ rest.map (cpo P ops) = r := by
  rw [hl] at h
  obtain ⟨o, rest, h1, h2, h3⟩ := List.map_eq_cons_iff.1 h
  exact ⟨o, rest, h1, h2, h3⟩

theorem vLen_slc {n w i len : Nat} {K : SV → Prop} (h : K (.v (.int .i64 (len : Int)))) : vLen (.slc n w i len) K := h

section walk
variable {P : Program} {pl : Nat → DT} {ops : Array Oper} {Q : Exit → Act → World → Prop} {n l bb nn i len : Nat} {s : Option Nat} {a : Act} {W : World} {ρ : Nat → Loc} {hp : List Ent} {M F : HL} {v0 : Value}

theorem backA_walk (hgd : guardsOK ops = true) (hnd : noDefer ops = true) (hl : ops.toList.map (cpo P ops) = backA) (hlen : len ≤ 1000000) (hk3 : Keeps3 l bb a.tmps.toList) (H : Holds ρ hp M F W) (hv : W.cell? ⟨bb, 0, none⟩ = some v0) (hd0 : Den ρ (.slc nn (s.getD 1) i len) v0)
    (hQ : ∀ a', Keeps3 l bb a'.tmps.toList → a'.tmps.toList[3]? = some (.int .i64 ((len : Int) - 1)) → a'.defers = a.defers → Q .normal a' W) : wpListIn (Wd none) n P ops Q ops.toList a W := by
  have hg := guards_spec hgd
  have hd := noDefer_spec hnd
  obtain ⟨o1, r1, e1, c1, m1⟩ := List.map_eq_cons_iff.1 hl
  obtain ⟨o2, r2, e2, c2, m2⟩ := List.map_eq_cons_iff.1 m1
  obtain ⟨o3, r3, e3, c3, m3⟩ := List.map_eq_cons_iff.1 m2
  obtain ⟨o4, r4, e4, c4, m4⟩ := List.map_eq_cons_iff.1 m3
  obtain rfl := List.map_eq_nil_iff.1 m4
  subst e4; subst e3; subst e2
  rw [e1] at hg hd ⊢
  obtain ⟨k1, k2, k3⟩ := hk3
  obtain ⟨v3, h3⟩ : ∃ v, a.tmps.toList[3]? = some v := ⟨_, List.getElem?_eq_getElem (by omega)⟩
  have hD : DenL ρ (tmI l bb .any) a.tmps.toList := tmI_den k1 k2 k3 ⟨v3, h3, trivial⟩
  refine st_load (ad := ⟨bb, 0, none⟩) (y := v0) (hg o1 (by simp)) (hd o1 (by simp)) c1 (fun x0 hx => eval_t k3 x0 hx) hv ?_
  have hD1 : DenL ρ ((tmI l bb .any).set 4 (.slc nn (s.getD 1) i len)) (a.put (some 4) v0).tmps.toList := by simpa [Act.put] using hD.set hd0 4
  refine st_pure (.v (.int .i64 (len : Int))) (hg o2 (by simp)) (hd o2 (by simp)) c2 rfl H hD1 rfl fun a2 hD2 q2 => ?_
  refine st_pure (.v (.int .i64 (IntKind.i64.wrap ((len : Int) - 1)))) (hg o3 (by simp)) (hd o3 (by simp)) c3 rfl H hD2 rfl fun a3 hD3 q3 => ?_
  refine st_pure (.v (.int .i64 (IntKind.i64.wrap ((len : Int) - 1)))) (hg o4 (by simp)) (hd o4 (by simp)) c4 rfl H hD3 rfl fun a4 hD4 q4 => ?_
  refine hQ a4 (.of hD4 rfl rfl rfl) ?_ (q4.trans (q3.trans q2))
  obtain ⟨v, ev, dv⟩ := hD4.get (n := 3) rfl
  rw [ev]
  simp only [Den] at dv
  rw [← dv, IntKind.wrap_i64]
  congr 2
  omega

theorem backB_walk {k : Nat} (hgd : guardsOK ops = true) (hnd : noDefer ops = true) (hl : ops.toList.map (cpo P ops) = backB) (hk3 : Keeps3 l bb a.tmps.toList) (hy : a.tmps.toList[3]? = some (.int .i64 ((k : Int) - 1))) (H : Holds ρ hp M F W)
    (hQ : ∀ a', Keeps3 l bb a'.tmps.toList → a'.tmps.toList[3]? = some (.int .i64 ((k : Int) - 1)) → a'.tmps.toList[8]? = some (.bool (decide ((k : Int) - 1 ≥ 0))) → a'.defers = a.defers → Q .normal a' W) : wpListIn (Wd none) n P ops Q ops.toList a W := by
  have hg := guards_spec hgd
  have hd := noDefer_spec hnd
  obtain ⟨o1, r1, e1, c1, m1⟩ := List.map_eq_cons_iff.1 hl
  obtain ⟨o2, r2, e2, c2, m2⟩ := List.map_eq_cons_iff.1 m1
  obtain rfl := List.map_eq_nil_iff.1 m2
  subst e2
  rw [e1] at hg hd ⊢
  obtain ⟨k1, k2, k3⟩ := hk3
  have hD : DenL ρ (tmI l bb (.v (.int .i64 ((k : Int) - 1)))) a.tmps.toList := tmI_den k1 k2 k3 ⟨_, hy, rfl⟩
  refine st_pure (.v (.int .i64 ((k : Int) - 1))) (hg o1 (by simp)) (hd o1 (by simp)) c1 rfl H hD rfl fun a1 hD1 q1 => ?_
  refine st_pure (.v (.bool (decide ((k : Int) - 1 ≥ 0)))) (hg o2 (by simp)) (hd o2 (by simp)) c2 rfl H hD1 rfl fun a2 hD2 q2 => ?_
  refine hQ a2 (.of hD2 rfl rfl rfl) ?_ ?_ (q2.trans q1)
  · obtain ⟨v, ev, dv⟩ := hD2.get (n := 3) rfl
    rw [ev]; simp only [Den] at dv; rw [dv]
  · obtain ⟨v, ev, dv⟩ := hD2.get (n := 8) rfl
    rw [ev]; simp only [Den] at dv; rw [dv]

theorem backD_walk {k : Nat} (hk : (k : Int) ≤ 1000000) (hgd : guardsOK ops = true) (hnd : noDefer ops = true) (hl : ops.toList.map (cpo P ops) = backD) (hk3 : Keeps3 l bb a.tmps.toList) (hy : a.tmps.toList[3]? = some (.int .i64 (k : Int))) (H : Holds ρ hp M F W)
    (hQ : ∀ a', Keeps3 l bb a'.tmps.toList → a'.tmps.toList[3]? = some (.int .i64 ((k : Int) - 1)) → a'.defers = a.defers → Q .normal a' W) : wpListIn (Wd none) n P ops Q ops.toList a W := by
  have hg := guards_spec hgd
  have hd := noDefer_spec hnd
  obtain ⟨o1, r1, e1, c1, m1⟩ := List.map_eq_cons_iff.1 hl
  obtain ⟨o2, r2, e2, c2, m2⟩ := List.map_eq_cons_iff.1 m1
  obtain ⟨o3, r3, e3, c3, m3⟩ := List.map_eq_cons_iff.1 m2
  obtain rfl := List.map_eq_nil_iff.1 m3
  subst e3; subst e2
  rw [e1] at hg hd ⊢
  obtain ⟨k1, k2, k3⟩ := hk3
  have hD : DenL ρ (tmI l bb (.v (.int .i64 (k : Int)))) a.tmps.toList := tmI_den k1 k2 k3 ⟨_, hy, rfl⟩
  refine st_pure (.v (.int .i64 (k : Int))) (hg o1 (by simp)) (hd o1 (by simp)) c1 rfl H hD rfl fun a1 hD1 q1 => ?_
  refine st_pure (.v (.int .i64 (IntKind.i64.wrap ((k : Int) - 1)))) (hg o2 (by simp)) (hd o2 (by simp)) c2 rfl H hD1 rfl fun a2 hD2 q2 => ?_
  refine st_pure (.v (.int .i64 (IntKind.i64.wrap ((k : Int) - 1)))) (hg o3 (by simp)) (hd o3 (by simp)) c3 rfl H hD2 rfl fun a3 hD3 q3 => ?_
  refine hQ a3 (.of hD3 rfl rfl rfl) ?_ (q3.trans (q2.trans q1))
  obtain ⟨v, ev, dv⟩ := hD3.get (n := 3) rfl
  rw [ev]
  simp only [Den] at dv
  rw [← dv, IntKind.wrap_i64]
  congr 2
  omega

theorem backC_walk {k : Nat} {R : Ending → World → Prop} (hk : k < len) (hgd : guardsOK ops = true) (hnd : noDefer ops = true) (hl : ops.toList.map (cpo P ops) = backC s) (hk3 : Keeps3 l bb a.tmps.toList) (hy : a.tmps.toList[3]? = some (.int .i64 (k : Int)))
    (H : Holds ρ hp M F W) (hv : W.cell? ⟨bb, 0, none⟩ = some v0) (hd0 : Den ρ (.slc nn (s.getD 1) i len) v0) (hic : isCells (eget hp nn) = false)
    {KK : SV → Prop} (hL : vLoad s (.ptr nn (s.getD 1) (i + k) 0) hp M KK) (hY : ∀ x y, KK x → Den ρ x y → YieldAt (Wd none) (n - 1) P l #[.int .i64 k, y] W R)
    (hR : ∀ e w', R e w' → ∃ b : Bool, e = .returned (.bool b) ∧ (∃ ρ2 hp2 M2 F2, Holds ρ2 hp2 M2 F2 w') ∧
      ∀ a', Keeps3 l bb a'.tmps.toList → a'.tmps.toList[3]? = some (.int .i64 (k : Int)) → a'.tmps.toList[18]? = some (.bool (!b)) → a'.defers = a.defers → Q .normal a' w') : wpListIn (Wd none) n P ops Q ops.toList a W := by
  have hg := guards_spec hgd
  have hd := noDefer_spec hnd
  obtain ⟨o1, r1, e1, c1, m1⟩ := List.map_eq_cons_iff.1 hl
  obtain ⟨o2, r2, e2, c2, m2⟩ := List.map_eq_cons_iff.1 m1
  obtain ⟨o3, r3, e3, c3, m3⟩ := List.map_eq_cons_iff.1 m2
  obtain ⟨o4, r4, e4, c4, m4⟩ := List.map_eq_cons_iff.1 m3
  obtain ⟨o5, r5, e5, c5, m5⟩ := List.map_eq_cons_iff.1 m4
  obtain ⟨o6, r6, e6, c6, m6⟩ := List.map_eq_cons_iff.1 m5
  obtain ⟨o7, r7, e7, c7, m7⟩ := List.map_eq_cons_iff.1 m6
  obtain ⟨o8, r8, e8, c8, m8⟩ := List.map_eq_cons_iff.1 m7
  obtain rfl := List.map_eq_nil_iff.1 m8
  subst e8; subst e7; subst e6; subst e5; subst e4; subst e3; subst e2
  rw [e1] at hg hd ⊢
  obtain ⟨k1, k2, k3⟩ := hk3
  have hD : DenL ρ (tmI l bb (.v (.int .i64 (k : Int)))) a.tmps.toList := tmI_den k1 k2 k3 ⟨_, hy, rfl⟩
  refine st_pure (.fn (.yield l) [] []) (hg o1 (by simp)) (hd o1 (by simp)) c1 rfl H hD rfl fun a1 hD1 q1 => ?_
  refine st_pure (.v (.int .i64 (k : Int))) (hg o2 (by simp)) (hd o2 (by simp)) c2 rfl H hD1 rfl fun a2 hD2 q2 => ?_
  refine st_load (ad := ⟨bb, 0, none⟩) (y := v0) (hg o3 (by simp)) (hd o3 (by simp)) c3 (fun x0 hx => eval_t (Keeps3.of hD2 rfl rfl rfl).2.2 x0 hx) hv ?_
  have hD3 : DenL ρ ((((tmI l bb (.v (.int .i64 (k : Int)))).set 11 (.fn (.yield l) [] [])).set 12 (.v (.int .i64 (k : Int)))).set 13 (.slc nn (s.getD 1) i len)) (a2.put (some 13) v0).tmps.toList := by simpa [Act.put] using hD2.set hd0 13
  have q3 : (a2.put (some 13) v0).defers = a2.defers := rfl
  generalize a2.put (some 13) v0 = a3 at hD3 q3 ⊢
  refine st_pure (.v (.int .i64 (k : Int))) (hg o4 (by simp)) (hd o4 (by simp)) c4 rfl H hD3 rfl fun a4 hD4 q4 => ?_
  have hidx : vIdx (s.getD 1) (.slc nn (s.getD 1) i len) (.v (.int .i64 (k : Int))) hp fun v => v = .ptr nn (s.getD 1) (i + k) 0 := by
    unfold vIdx
    simp only [vInt, Nat.beq_refl, hic]
    exact ⟨by omega, by omega, by simp⟩
  refine st_pure (.ptr nn (s.getD 1) (i + k) 0) (hg o5 (by simp)) (hd o5 (by simp)) c5 rfl H hD4 hidx fun a5 hD5 q5 => ?_
  obtain ⟨vp, ep, dp⟩ := hD5.get (n := 15) rfl
  obtain ⟨ad, y, sv, hvp, hf, hyy, hdy⟩ := vLoad_sound hL H dp
  subst hvp
  refine st_load (ad := ad) (y := y) (hg o6 (by simp)) (hd o6 (by simp)) c6 (fun x0 hx => eval_t ep x0 hx) hf ?_
  have hD6 := hD5.set hdy 16
  have hD6' := hD6
  rw [show a5.tmps.toList.set 16 y = (a5.put (some 16) y).tmps.toList by simp [Act.put]] at hD6'
  have q6 : (a5.put (some 16) y).defers = a5.defers := rfl
  have e16 : (a5.put (some 16) y).tmps.toList[16]? = some y := by
    have hl5 := hD5.length
    have : (a5.tmps.toList).length = 19 := by rw [← hl5]; rfl
    have : a5.tmps.size = 19 := by simpa using this
    simp [Act.put, this]
  generalize a5.put (some 16) y = a6 at hD6' q6 e16 ⊢
  have hk6 : Keeps3 l bb a6.tmps.toList := .of hD6' rfl rfl rfl
  obtain ⟨v11, e11, d11⟩ := hD6'.get (n := 11) rfl
  obtain ⟨v12, e12, d12⟩ := hD6'.get (n := 12) rfl
  obtain ⟨v3, e3', d3⟩ := hD6'.get (n := 3) rfl
  have h11 : v11 = .func (.yield l) #[] #[] := by
    simp only [Den] at d11
    obtain ⟨x, z, rfl, hx, hz⟩ := d11
    have hx0 : x = [] := by cases x with | nil => rfl | cons _ _ => simp [DenL] at hx
    have hz0 : z = [] := by cases z with | nil => rfl | cons _ _ => simp [DenL] at hz
    subst hx0; subst hz0
    rfl
  simp only [Den] at d12 d3
  refine st_yield (l1 := l) (k := (k : Int)) (y := y) (hg o7 (by simp)) (hd o7 (by simp)) c7 (fun x0 hx => by rw [eval_t e11 x0 hx, h11]) (fun x0 hx => by rw [eval_t e12 x0 hx, d12]) (fun x0 hx => eval_t e16 x0 hx) (hY _ y hyy hdy) fun e w' hr => ?_
  obtain ⟨b, rfl, ⟨ρ2, hp2, M2, F2, H2⟩, hfin⟩ := hR e w' hr
  refine ⟨_, rfl, ?_⟩
  obtain ⟨u1, u2, u3⟩ := hk6
  have hD7 : DenL ρ2 ((tmI l bb (.v (.int .i64 (k : Int)))).set 17 (.v (.bool b))) (a6.put (some 17) (.bool b)).tmps.toList := by
    have : DenL ρ2 (tmI l bb (.v (.int .i64 (k : Int)))) a6.tmps.toList := tmI_den u1 u2 u3 ⟨v3, e3', by simp only [Den]; exact d3⟩
    simpa [Act.put] using this.set (show Den ρ2 (.v (.bool b)) (.bool b) from rfl) 17
  have q7 : (a6.put (some 17) (.bool b)).defers = a6.defers := rfl
  generalize a6.put (some 17) (.bool b) = a7 at hD7 q7 ⊢
  refine st_pure (.v (.bool (!b))) (hg o8 (by simp)) (hd o8 (by simp)) c8 rfl H2 hD7 rfl fun a8 hD8 q8 => ?_
  refine hfin a8 (.of hD8 rfl rfl rfl) ?_ ?_ (by rw [q8, q7, q6, q5, q4, q3, q2, q1])
  · obtain ⟨v, ev, dv⟩ := hD8.get (n := 3) rfl
    rw [ev]; simp only [Den] at dv; rw [dv]
  · obtain ⟨v, ev, dv⟩ := hD8.get (n := 18) rfl
    rw [ev]; simp only [Den] at dv; rw [dv]
end walk

/-- slices.Backward's closure, for whatever a round keeps: the elements come from the last to the first, until a round says 'no more'. -/
theorem back_calls {P : Program} {g : Nat} {s : Option Nat} (hI : IsBack P g s) {l bb nn i len n : Nat} (hlen : len ≤ 1000000) {J : Nat → World → Prop} {Jx : World → Prop}
    (hX : ∀ W, Jx W → ∃ ρ hp M F, Holds ρ hp M F W)
    (hJ : ∀ k W, J k W → ∃ ρ hp M F v0, Holds ρ hp M F W ∧ W.cell? ⟨bb, 0, none⟩ = some v0 ∧ Den ρ (.slc nn (s.getD 1) i len) v0 ∧
      ∀ k', k = k' + 1 → k' < len → isCells (eget hp nn) = false ∧ ∃ KK : SV → Prop, vLoad s (.ptr nn (s.getD 1) (i + k') 0) hp M KK ∧ ∀ x y, KK x → Den ρ x y → YieldAt (Wd none) (n - 1) P l #[.int .i64 k', y] W fun e W' =>
        (e = .returned (.bool true) ∧ J k' W') ∨ (e = .returned (.bool false) ∧ Jx W'))
    {W : World} (h0 : J len W) : CallsIn (Wd none) n P g #[.func (.yield l) #[] #[], .pointer (some ⟨bb, 0, none⟩)] W fun e W' => (∃ v, e = .returned v) ∧ (J 0 W' ∨ Jx W') := by
  obtain ⟨fn, c, pl, hf, hb, _, hnt, hres, hc, hgd⟩ := hI
  obtain ⟨cA, c1, rfl, hA, h1⟩ := inv_seq hc
  obtain ⟨c2, rfl, h2⟩ := inv_block h1
  obtain ⟨c3, rfl, h3⟩ := inv_loop h2
  obtain ⟨c4, c5, rfl, h4, h5⟩ := inv_seq h3
  obtain ⟨cB, c6, rfl, hB, h6⟩ := inv_seq h4
  obtain ⟨u8, x1, x2, rfl, hu8, hx1, hx2⟩ := inv_cond h6
  obtain rfl := inv_skip hx1
  obtain rfl := inv_exit hx2
  obtain ⟨c7, cD, rfl, h7, hD⟩ := inv_seq h5
  obtain ⟨c8, rfl, h8⟩ := inv_block h7
  obtain ⟨cC, c9, rfl, hC, h9⟩ := inv_seq h8
  obtain ⟨u18, x3, x4, rfl, hu18, hx3, hx4⟩ := inv_cond h9
  obtain rfl := inv_ret hx3
  obtain rfl := inv_skip hx4
  obtain ⟨iA, oA, rfl, lA⟩ := inv_ops hA
  obtain ⟨iB, oB, rfl, lB⟩ := inv_ops hB
  obtain ⟨iC, oC, rfl, lC⟩ := inv_ops hC
  obtain ⟨iD, oD, rfl, lD⟩ := inv_ops hD
  simp only [guardsAll, Bool.and_eq_true] at hgd
  obtain ⟨⟨⟨gA, dA⟩, _⟩, ⟨⟨⟨⟨gB, dB⟩, _⟩, _⟩, ⟨⟨⟨gC, dC⟩, _⟩, _⟩, ⟨⟨gD, dD⟩, _⟩⟩⟩ := hgd
  have fin : ∀ (a : Act) (W : World), a.defers = [] → (J 0 W ∨ Jx W) → a.defers = [] ∧ ∃ v, (results fn a.tmps).run P W = .ok v W ∧ ((∃ u, Ending.returned v = .returned u) ∧ (J 0 W ∨ Jx W)) := fun a W hd h => by
    refine ⟨hd, .tuple #[], ?_, ⟨_, rfl⟩, h⟩
    simp [results, hres]
  refine callsIn_of_wp hf hb trivial ?_ rfl
  rw [hnt]
  have hk0 : Keeps3 l bb ((#[.func (.yield l) #[] #[], .pointer (some ⟨bb, 0, none⟩)] ++ Array.replicate (19 - (#[.func (.yield l) #[] #[], .pointer (some ⟨bb, 0, none⟩)] : Array Value).size) undef : Array Value).toList) := ⟨by simp, by simp, by simp⟩
  obtain ⟨ρ, hp, M, F, v0, H, hv, hd0, _⟩ := hJ len W h0
  refine wpIn_seq (wpIn_region_list (backA_walk gA dA lA hlen hk0 H hv hd0 fun a1 k1 y1 q1 => ?_))
  refine wpIn_block (wpIn_loopN (fun k a W => J k W ∧ k ≤ len ∧ Keeps3 l bb a.tmps.toList ∧ a.tmps.toList[3]? = some (.int .i64 ((k : Int) - 1)) ∧ a.defers = []) (fun k a W ⟨hj, hk, k3, y3, qd⟩ => ?_) (n := len) ⟨h0, Nat.le_refl _, k1, y1, q1⟩)
  obtain ⟨ρ, hp, M, F, v0, H, hv, hd0, hY⟩ := hJ k W hj
  refine wpIn_seq (wpIn_seq (wpIn_region_list (backB_walk gB dB lB k3 y3 H fun a2 k4 y4 e8 q2 => ?_)))
  have hc8 := eval_t e8 u8 hu8
  cases k with
  | zero =>
    refine wpIn_cond_false (by rw [hc8]; rfl) (wpIn_exit ?_)
    simp only [Exit.then, Exit.inBlock, if_true]
    exact fin a2 W (q2.trans qd) (.inl hj)
  | succ k =>
    refine wpIn_cond_true (by rw [hc8]; congr 1; exact decide_eq_true (by omega)) (wpIn_skip ?_)
    obtain ⟨hic, KK, hL, hY⟩ := hY k rfl (by omega)
    have y5 : a2.tmps.toList[3]? = some (.int .i64 (k : Int)) := by rw [y4]; congr 2; omega
    refine wpIn_seq (wpIn_block (wpIn_seq (wpIn_region_list (backC_walk (by omega) gC dC lC k4 y5 H hv hd0 hic hL hY fun e w' hr => ?_))))
    rcases hr with ⟨rfl, hj'⟩ | ⟨rfl, hx'⟩
    · obtain ⟨ρ2, hp2, M2, F2, _, H2, _⟩ := hJ k w' hj'
      refine ⟨true, rfl, ⟨ρ2, hp2, M2, F2, H2⟩, fun a3 k6 y6 e18 q3 => ?_⟩
      refine wpIn_cond_false (by rw [eval_t e18 u18 hu18]; rfl) (wpIn_skip ?_)
      refine wpIn_region_list (backD_walk (k := k) (by omega) gD dD lD k6 y6 H2 fun a4 k7 y7 q4 => ?_)
      exact ⟨k, Nat.lt_succ_self k, hj', by omega, k7, y7, q4.trans (q3.trans (q2.trans qd))⟩
    · refine ⟨false, rfl, hX w' hx', fun a3 k6 y6 e18 q3 => ?_⟩
      refine wpIn_cond_true (by rw [eval_t e18 u18 hu18]; rfl) (wpIn_ret ?_)
      exact fin a3 w' (q3.trans (q2.trans qd)) (.inr hx')
end Go.Vc
/-
  Symbolic execution, part N: code is sound.
-/
namespace Go.Vc
theorem eget_get : ∀ {l : List Ent} {n : Nat} {e : Ent}, l[n]? = some e → eget l n = e
  | [], _, _, h => by simp at h
  | _ :: _, 0, _, h => by simp at h; simp [eget, h]
  | _ :: r, n + 1, _, h => by simp only [eget]; exact eget_get (l := r) (by simpa using h)

def updH (F : HL) (l : Nat) (o : Obj) : HL := fun k => if k = l then some o else F k
theorem updH_same (F : HL) (l : Nat) (o : Obj) : updH F l o l = some o := by simp [updH]
theorem updH_ne (F : HL) {l k : Nat} (o : Obj) (h : k ≠ l) : updH F l o k = F k := by simp [updH, h]
theorem Holds.upd {ρ : Nat → Loc} {hp : List Ent} {M F : HL} {w : World} (H : Holds ρ hp M F w) {l : Nat} {o : Obj} (hl : F l = some o) (hM : M l = none) (o' : Obj) : Holds ρ hp M (updH F l o') (w.putObj l o') := by
  have hlt : l < w.heap.size := (Array.getElem?_eq_some_iff.1 (H.frm l o hl)).1
  refine H.put (fun m hm => by rw [H.out m l hm] at hl; cases hl) (fun k o2 hk => ?_) (fun k o2 hk => ?_) fun m b hb => ?_
  · by_cases e : k = l
    · subst e; rw [updH_same] at hk; rw [← hk]; exact World.putObj_heap_same hlt
    · rw [updH_ne _ _ e] at hk; rw [World.putObj_heap_other e]; exact H.frm k o2 hk
  · rw [updH_ne _ _ (fun e => by rw [e, hM] at hk; cases hk)]; exact H.sub k o2 hk
  · rw [updH_ne _ _ (fun e => by rw [← e, H.out m b hb] at hl; cases hl)]; exact H.out m b hb
theorem Gr.upd {M F M1 F1 : HL} (h : Gr M F M1 F1) {l : Nat} (hF : F l = none) (o' : Obj) : Gr M F M1 (updH F1 l o') :=
  ⟨fun k o hk => by rw [updH_ne _ _ (fun e => by rw [e, hF] at hk; cases hk)]; exact h.fr k o hk, h.kn, h.n⟩
theorem Gr.none {M F M1 F1 : HL} (h : Gr M F M1 F1) {l : Nat} {o : Obj} (hM : M l = none) (hF : F l = some o) : M1 l = none := by
  cases hm : M1 l with
  | none => rfl
  | some o2 =>
    rcases h.n l o2 hm with h1 | h1
    · rw [hM] at h1; cases h1
    · rw [hF] at h1; cases h1
theorem Same.put {w w' : World} (h : Same w w') (l : Nat) (o : Obj) : Same w (w'.putObj l o) :=
  ⟨h.os, h.tape, h.output, by show w.heap.size ≤ (w'.heap.setIfInBounds l o).size; simpa using h.size⟩

theorem range_sound {P : Program} {Γ : Nat → Option Trans} {pl : Nat → DT} (hB : ∀ g s, lookB g (bkOf (pl 999999)) = some s → IsBack P g s) {f : Operand} {ps : Array Tmp} {x y : Code} (ihx : Sound P Γ pl x) (ihy : Sound P Γ pl y)
    (gx : guardsAll pl x = true) (gy : guardsAll pl y = true) (nx : noRange x = true) (ny : noRange y = true) (n k0 : Nat) {tm : List SV} {hp : List Ent} {M : HL} {K : Ex → List SV → List Ent → HL → Prop} (hk : k0 ≤ hp.length)
    (h : vc Γ k0 (ccode P pl (.rangeFunc f ps x y)) tm hp M K) {ρ : Nat → Loc} {F : HL} {w : World} {a : Act} (H : Holds ρ hp M F w) (hD : DenL ρ tm a.tmps.toList) :
    (Code.rangeFunc f ps x y).wpIn (Wd none) n P (CPost K k0 ρ M F w a.defers) a w := by
  change vRange k0 (carg f) (bkOf (pl 999999)) ps.toList (ccode P pl x) (ccode P pl y) (fun k => vc Γ k (ccode P pl x)) (fun k => vc Γ k (ccode P pl y)) tm hp M K at h
  unfold vRange at h
  split at h
  case h_2 => exact h.elim
  rename_i g nb he
  split at h
  case h_2 => exact h.elim
  rename_i sz hlook
  have hI := hB g sz hlook
  obtain ⟨I, eb, nn, wd, i, len, ow, et, ck, rows, p1, p2, hbox, hrow, hnk, hps, rfl, hlen, ⟨m0, tmS, hpS, hwk⟩, hround, hend⟩ := h
  have hfd := ev_den hD f
  rw [he] at hfd
  simp only [Den] at hfd
  obtain ⟨x1, z1, hfv, hx1, hz1⟩ := hfd
  have hx0 : x1 = [] := by cases x1 with | nil => rfl | cons _ _ => simp [DenL] at hx1
  subst hx0
  match z1, hz1 with
  | [], hz1 => simp [DenL] at hz1
  | _ :: _ :: _, hz1 => simp [DenL] at hz1
  | [pv], hz1 =>
  simp only [DenL, Den, and_true] at hz1
  obtain ⟨bb, base, cap, hρb, hpv⟩ := hz1
  obtain ⟨bb', cap', cs, hρb', hheapb, hcs⟩ := H.ent nb _ hbox
  rw [hρb] at hρb'
  obtain ⟨rfl, rfl, rfl⟩ : bb = bb' ∧ base = 0 ∧ cap = cap' := by simpa using hρb'
  obtain ⟨v0, hcs0, hd0⟩ : ∃ v0, cs.toList = [v0] ∧ Den ρ (.slc nn (sz.getD 1) i len) v0 := by
    match hc : cs.toList, hcs with
    | [], hcs => simp [DenL] at hcs
    | _ :: _ :: _, hcs => simp [DenL] at hcs
    | [v0], hcs => simp only [DenL, and_true] at hcs; exact ⟨v0, rfl, hcs⟩
  have hpv' : pv = .pointer (some ⟨bb, 0, none⟩) := by rw [hpv]
  subst hpv'
  obtain ⟨D, hDd⟩ : ∃ D, D = w.heap.size := ⟨_, rfl⟩
  obtain ⟨l, hl⟩ : ∃ l, l = D + 1 := ⟨_, rfl⟩
  have hbown : owns ρ hp nb bb := ⟨_, 0, cap, hbox, rfl, hρb⟩
  have hbl : bb < D := by rw [hDd]; exact owns_lt H hbown
  have hFb : F bb = none := H.out nb bb hbown
  have hFD : ∀ k, D ≤ k → F k = none := fun k hk => by
    cases hf : F k with
    | none => rfl
    | some o => have := (Array.getElem?_eq_some_iff.1 (H.frm k o hf)).1; omega
  have hMn : ∀ k, F k = none → M k = none := fun k hk => by
    cases hm : M k with
    | none => rfl
    | some o => rw [H.sub k o hm] at hk; cases hk
  refine wpIn_rangeFunc ?_
  intro fn hfn
  obtain ⟨rec, hrec⟩ : ∃ rec : LoopState → Option Code → Loop, rec = fun st pe => { state := st, pending := pe, fn, tmps := a.tmps, params := ps, assign := x, body := y, defers := w.heap.size } := ⟨_, rfl⟩
  obtain ⟨W1, hW1⟩ : ∃ W1, (w.alloc (.deferred (some []))).alloc (.loop (rec .ready none)) = W1 := ⟨_, rfl⟩
  have hW1h : W1.heap = (w.heap.push (.deferred (some []))).push (.loop (rec .ready none)) := by rw [← hW1]; rfl
  have hlo : ∀ k, k < D → W1.heap[k]? = w.heap[k]? := fun k hk => by
    rw [hW1h, Array.getElem?_push_lt (by simp; omega), Array.getElem_push_lt (by omega), Array.getElem?_eq_getElem (by omega)]
  have hWD : W1.heap[D]? = some (.deferred (some [])) := by
    rw [hW1h, Array.getElem?_push_lt (by simp; omega)]
    simp [hDd]
  have hWl : W1.heap[l]? = some (.loop (rec .ready none)) := by
    rw [hW1h, hl, hDd, show w.heap.size + 1 = (w.heap.push (Obj.deferred (some []))).size by simp]; exact Array.getElem?_push_size
  have hS1 : Same w W1 := ⟨by rw [← hW1]; rfl, by rw [← hW1]; rfl, by rw [← hW1]; rfl, by rw [hW1h]; simp; omega⟩
  let Fs : HL := fun k => if k = bb then some (.cells cs eb (0, 0)) else if k = D then some (.deferred (some [])) else F k
  have hFs : FLe F Fs := fun k o hk => by
    show (if k = bb then _ else if k = D then _ else F k) = _
    rw [if_neg (fun e => by rw [e, hFb] at hk; cases hk), if_neg (fun e => by rw [e, hFD D (Nat.le_refl _)] at hk; cases hk)]
    exact hk
  have hFsb : Fs bb = some (.cells cs eb (0, 0)) := by show (if bb = bb then _ else _) = _; rw [if_pos rfl]
  have hFsD : Fs D = some (.deferred (some [])) := by show (if D = bb then _ else if D = D then _ else _) = _; rw [if_neg (by omega), if_pos rfl]
  have hFsl : Fs l = none := by show (if l = bb then _ else if l = D then _ else F l) = _; rw [if_neg (by omega), if_neg (by omega)]; exact hFD l (by omega)
  have hGs : Gr M F M Fs := ⟨hFs, FLe.refl M, fun _ _ h => .inl h⟩
  have H1 : Holds ρ (hp.set nb .gone) M (updH Fs l (.loop (rec .ready none))) W1 := by
    have H0 := H.drop nb
    have hob : ∀ m b, owns ρ (hp.set nb .gone) m b → b ≠ bb ∧ b < D ∧ F b = none := fun m b hm => by
      refine ⟨fun e => ?_, by rw [hDd]; exact owns_lt H0 hm, H0.out m b hm⟩
      subst e
      obtain ⟨e1, base1, cap1, q1, q2, q3⟩ := hm
      by_cases hmn : nb = m
      · subst hmn
        rw [List.getElem?_set_self (by have := List.getElem?_eq_some_iff.1 hbox; exact this.1)] at q1
        cases q1; cases q2
      · rw [List.getElem?_set_ne hmn] at q1
        exact hmn (H.sep nb m b hbown ⟨e1, base1, cap1, q1, q2, q3⟩)
    refine ⟨fun m e hme => (H0.ent m e hme).keep (fun _ _ h => h) rfl (FLe.refl M) fun b base cap ho hr => hlo b (hob m b ⟨e, base, cap, hme, ho, hr⟩).2.1, H0.sep, fun m b hm => ?_, fun k o hk => ?_, fun k o hk => ?_, H0.dom⟩
    · obtain ⟨q1, q2, q3⟩ := hob m b hm
      rw [updH_ne _ _ (by omega)]
      show (if b = bb then _ else if b = D then _ else F b) = _
      rw [if_neg q1, if_neg (by omega)]
      exact q3
    · by_cases e : k = l
      · subst e; rw [updH_same] at hk; rw [hWl]; exact hk
      · rw [updH_ne _ _ e] at hk
        replace hk : (if k = bb then some (.cells cs eb (0, 0)) else if k = D then some (.deferred (some [])) else F k) = some o := hk
        by_cases e1 : k = bb
        · rw [if_pos e1] at hk; rw [e1, hlo bb hbl, hheapb]; exact hk
        · rw [if_neg e1] at hk
          by_cases e2 : k = D
          · rw [if_pos e2] at hk; rw [e2, hWD]; exact hk
          · rw [if_neg e2] at hk
            have := H.frm k o hk
            rw [hlo k (by rw [hDd]; exact (Array.getElem?_eq_some_iff.1 this).1)]
            exact this
    · have hf := H.sub k o hk
      rw [updH_ne _ _ (fun e => by rw [e, hFD l (by omega)] at hf; cases hf)]
      exact hFs k o hf
  obtain ⟨hI0, ρS, HS, hDS, hES, hkS⟩ := Wk_spec hwk H1 hD
  have hlM : M l = none := hMn l (hFD l (by omega))
  have hl0 : ∀ {st pe}, (rec st pe).params = ps := by intro st pe; rw [hrec]
  -- what stands between two rounds
  let Base : List SV → (Nat → Loc) → List Ent → HL → HL → World → Prop := fun tm1 ρ1 hp1 M1 F1 W => k0 ≤ hp1.length ∧ Ext k0 ρ ρ1 ∧ Holds ρ1 hp1 M1 F1 W ∧ Gr M Fs M1 F1 ∧ Same w W ∧ DenL ρ1 tm1 a.tmps.toList ∧ M1 l = none
  let J : Nat → World → Prop := fun k W => ∃ tm1 ρ1 hp1 M1 F1, I k tm1 hp1 M1 ∧ F1 l = some (.loop (rec .ready none)) ∧ Base tm1 ρ1 hp1 M1 F1 W
  let Jx : World → Prop := fun W => ∃ (c : Code) (ex : Ex) (tm1 : List SV) (ρ1 : Nat → Loc) (hp1 : List Ent) (M1 F1 : HL), ((c = .ret ∧ ex = .ret) ∨ ∃ id, c = .exit id ∧ ex = .exit id) ∧ K ex tm1 hp1 M1 ∧ F1 l = some (.loop (rec .done (some c))) ∧ Base tm1 ρ1 hp1 M1 F1 W
  have hJ0 : J len W1 := ⟨tmS, ρS, hpS, M, _, hI0, updH_same .., hkS, hES, HS, (Gr.refl M Fs).upd hFsl _, hS1, hDS, hlM⟩
  have hboxW : ∀ {M1 F1 : HL} {ρ1 hp1 W}, Holds ρ1 hp1 M1 F1 W → Gr M Fs M1 F1 → W.cell? ⟨bb, 0, none⟩ = some v0 := fun {M1 F1 ρ1 hp1 W} HH G => by
    have := HH.frm bb _ (G.fr bb _ hFsb)
    have hc0 : cs[0]? = some v0 := by rw [← Array.getElem?_toList, hcs0]; rfl
    simp [World.cell?, this, hc0]
  have hDen0 : ∀ {ρ1}, Ext k0 ρ ρ1 → Den ρ1 (.slc nn (sz.getD 1) i len) v0 := fun {ρ1} hx => by
    simp only [Den] at hd0 ⊢
    obtain ⟨a1, c1, q1, q2, q3⟩ := hd0
    exact ⟨a1, c1, q1, q2, q3.imp id fun ⟨b, base, cap, q4, q5⟩ => ⟨b, base, cap, (hx nn hnk).trans q4, q5⟩⟩
  have hpsz : ps = #[p1, p2] := by apply Array.ext'; rw [hps]
  refine ⟨l, [coll D], W1, { target := .fn (.func g) #[.pointer (some ⟨bb, 0, none⟩)], args := #[.func (.yield l) #[] #[]] }, W1, g, #[.func (.yield l) #[] #[], .pointer (some ⟨bb, 0, none⟩)], W1, ?_, ?_, ?_, ?_, (fun hh => by cases hh), ?_⟩
  · rw [← hW1, hrec, hl, hDd]; exact run_enterLoop_outer _ _ _ _ _
  · simp only [resolve, hfv]
    simp [go_sem]
  · intro _ _; trivial
  · obtain ⟨fn1, c1, pl1, q1, q2, q3, _⟩ := hI
    have hb : fn1.body.isNone = false := by rw [q2]; rfl
    have hcf : ∀ z, (callFunc g z).run P W1 = .ok (.enter g z) W1 := by
      intro z
      simp only [callFunc, Sem.run_bind, run_program, Result.andThen_ok, q1, q3, hb, Bool.false_eq_true, if_false]
      rfl
    simp [invoke, hcf]
  · refine (back_calls hI (n := n - 1) (nn := nn) (i := i) (len := len) hlen (J := J) (Jx := Jx) ?_ ?_ hJ0).mono ?_
    · rintro W ⟨c, ex, tm1, ρ1, hp1, M1, F1, _, _, _, _, _, HH, _⟩
      exact ⟨ρ1, hp1, M1, F1, HH⟩
    · rintro k W ⟨tm1, ρ1, hp1, M1, F1, hIk, hF1, hk1, hE1, HH, hG1, hSW, hD1, hM1⟩
      refine ⟨ρ1, hp1, M1, F1, v0, HH, hboxW HH hG1, hDen0 hE1, ?_⟩
      rintro k' rfl hk'
      obtain ⟨hr1, hload⟩ := hround k' hk' tm1 hp1 M1 hIk
      refine ⟨by rw [eget_get hr1]; rfl, _, hload, fun sv yv hKK hden => ?_⟩
      simp only [sset_iff] at hKK
      have hWlr := HH.frm l _ hF1
      have hyl := run_yield (P := P) (args := #[.int .i64 k', yv]) hWlr (by rw [hl0, hpsz]; rfl)
      rw [hl0] at hyl
      refine ⟨_, _, _, _, hyl, roundIn_of_wpIn (show (Wd none).fn _ from trivial) ?_⟩
      have hxa : (rec .ready none).assign = x := by rw [hrec]
      have hyb : (rec .ready none).body = y := by rw [hrec]
      have hta : (rec .ready none).tmps = a.tmps := by rw [hrec]
      rw [hxa, hyb, hta, hpsz]
      have hD3 : DenL ρ1 ((tm1.set p1 (.v (.int .i64 k'))).set p2 sv) (((#[p1, p2].zip #[Value.int .i64 k', yv]).foldl (fun t (p, v) => t.setIfInBounds p v) a.tmps).toList) := by
        have q1 := (hD1.set (show Den ρ1 (.v (.int .i64 k')) (.int .i64 k') from rfl) p1).set hden p2
        simpa using q1
      have hw := ihx (some l) (n - 1 - 1) (llen hp1) _ hp1 M1 _ (.inr nx) gx (by rw [llen_eq]; exact Nat.le_refl _) hKK ρ1 F1 W { tmps := (#[p1, p2].zip #[Value.int .i64 k', yv]).foldl (fun t (p, v) => t.setIfInBounds p v) a.tmps, defers := [] } HH hD3
      refine wpIn_mono hw fun e a2 W2 hc => ?_
      obtain ⟨ex, tm4, ρ4, hp4, M4, F4, e1, e2, e3, e4, e5, e6, e7, e8, _⟩ := hc
      cases ex with
      | exit id => exact e2.elim
      | ret => exact e2.elim
      | normal =>
      subst e1
      have hM4 : M4 l = none := e6.none hM1 hF1
      have hF4 := e6.fr l _ hF1
      have hG4 : Gr M Fs M4 F4 := hG1.trans e6
      refine ⟨W2.putObj l (.loop (rec .busy none)), ?_, ?_⟩
      · have := run_beginRound (P := P) (e5.frm l _ hF4) (by rw [hrec])
        rw [this, hrec]
      have H4 := e5.upd hF4 hM4 (.loop (rec .busy none))
      have hw2 := ihy (some l) (n - 1 - 1) (llen hp1) tm4 hp4 M4 _ (.inr ny) gy e3 e2 ρ4 _ _ a2 H4 e8
      refine wpIn_mono hw2 fun e a3 W3 hc => ?_
      obtain ⟨ex, tm5, ρ5, hp5, M5, F5, f1, f2, f3, f4, f5, f6, f7, _, _⟩ := hc
      have hF5 : F5 l = some (.loop (rec .busy none)) := f6.fr l _ (updH_same ..)
      have hM5 : M5 l = none := f6.none hM4 (updH_same ..)
      have hG5 : Gr M Fs M5 F5 := (hG4.upd hFsl _).trans f6
      have hx5 : Ext (llen hp1) ρ1 ρ5 := e4.trans f4
      rw [llen_eq] at hx5 f3
      have hD5 : DenL ρ5 tm1 a.tmps.toList := hD1.mono (HH.le hx5)
      have hE5 : Ext k0 ρ ρ5 := hE1.trans (hx5.mono hk1)
      have hS5 : Same w W3 := (hSW.trans (e7.put l _)).trans f7
      have hend5 : ∀ (jump : Option Code), (Instr.endRound l jump).run P W3 = .ok (.bool jump.isNone) (W3.putObj l (.loop (rec (if jump.isNone then .ready else .done) jump))) := fun jump => by
        have := run_endRound (P := P) jump (f5.frm l _ hF5)
        rw [this, hrec]
      cases ex with
      | normal =>
        subst f1
        obtain ⟨m6, tm6, hp6, hwk6⟩ := f2
        obtain ⟨hI6, ρ6, H6, hD6, hE6, hk6⟩ := Wk_spec hwk6 (f5.upd hF5 hM5 (.loop (rec .ready none))) hD5
        exact ⟨_, _, hend5 none, .inl ⟨rfl, tm6, ρ6, hp6, M5, _, hI6, updH_same .., hk6, hE5.trans hE6, H6, hG5.upd hFsl _, hS5.put l _, hD6, hM5⟩⟩
      | ret =>
        subst f1
        exact ⟨_, _, hend5 (some .ret), .inr ⟨rfl, .ret, .ret, tm1, ρ5, hp5, M5, _, .inl ⟨rfl, rfl⟩, f2, updH_same .., by omega, hE5, f5.upd hF5 hM5 _, hG5.upd hFsl _, hS5.put l _, hD5, hM5⟩⟩
      | exit id =>
        subst f1
        exact ⟨_, _, hend5 (some (.exit id)), .inr ⟨rfl, .exit id, .exit id, tm1, ρ5, hp5, M5, _, .inr ⟨id, rfl, rfl⟩, f2, updH_same .., by omega, hE5, f5.upd hF5 hM5 _, hG5.upd hFsl _, hS5.put l _, hD5, hM5⟩⟩
    · rintro e W2 ⟨⟨v, rfl⟩, hfin⟩
      have post : ∀ (ex : Ex) (tm1 : List SV) (ρ1 : Nat → Loc) (hp1 : List Ent) (M1 F1 : HL) (o : Obj) (o' : Obj) (e : Exit), (e = match ex with | .normal => .normal | .exit id => .exit id | .ret => .ret) → K ex tm1 hp1 M1 → F1 l = some o → Base tm1 ρ1 hp1 M1 F1 W2 →
          CPost K k0 ρ M F w a.defers e { a with defers := [coll D] ++ a.defers } (W2.putObj l o') := fun ex tm1 ρ1 hp1 M1 F1 o o' e he hK hF1 hb => by
        obtain ⟨hk1, hE1, HH, hG1, hSW, hD1, hM1⟩ := hb
        refine ⟨ex, tm1, ρ1, hp1, M1, updH F1 l o', he, hK, hk1, hE1, HH.upd hF1 hM1 o', hGs.trans (hG1.upd hFsl o'), hSW.put l o', hD1, [D], rfl, by simp, fun D' hD' => ?_⟩
        obtain rfl : D' = D := by simpa using hD'
        refine ⟨?_, hFD _ (Nat.le_refl _), hG1.none (hMn _ (hFD _ (Nat.le_refl _))) hFsD⟩
        rw [updH_ne _ _ (by omega)]
        exact hG1.fr _ _ hFsD
      rcases hfin with ⟨tm1, ρ1, hp1, M1, F1, hIk, hF1, hb⟩ | ⟨c, ex, tm1, ρ1, hp1, M1, F1, hcx, hKx, hF1, hb⟩
      · have hrun := run_endLoop (P := P) (hb.2.2.1.frm l _ hF1) (by rw [hrec]; simp)
        exact ⟨_, _, hrun, by rw [hrec]; exact post .normal tm1 ρ1 hp1 M1 F1 _ _ _ rfl (hend tm1 hp1 M1 hIk) hF1 hb⟩
      · have hrun := run_endLoop (P := P) (hb.2.2.1.frm l _ hF1) (by rw [hrec]; simp)
        refine ⟨_, _, hrun, ?_⟩
        rw [hrec]
        rcases hcx with ⟨rfl, rfl⟩ | ⟨id, rfl, rfl⟩
        · exact wpIn_ret (post .ret tm1 ρ1 hp1 M1 F1 _ _ _ rfl hKx hF1 hb)
        · exact wpIn_exit (post (.exit id) tm1 ρ1 hp1 M1 F1 _ _ _ rfl hKx hF1 hb)
theorem vc_sound {P : Program} {Γ : Nat → Option Trans} (hG : GOK P Γ) (hm : P.follows .mixedOrders = true) (pl : Nat → DT) (hB : ∀ g s, lookB g (bkOf (pl 999999)) = some s → IsBack P g s) : ∀ (c : Code), Sound P Γ pl c := by
  intro c
  induction c with
  | skip => intro ro n k0 tm hp M K _ _ hk h ρ F w a H hD; exact wpIn_skip ⟨.normal, tm, ρ, hp, M, F, rfl, h, hk, Ext.refl _ _, H, Gr.refl M F, Same.refl w, hD, .refl ..⟩
  | ret => intro ro n k0 tm hp M K _ _ hk h ρ F w a H hD; exact wpIn_ret ⟨.ret, tm, ρ, hp, M, F, rfl, h, hk, Ext.refl _ _, H, Gr.refl M F, Same.refl w, hD, .refl ..⟩
  | exit id => intro ro n k0 tm hp M K _ _ hk h ρ F w a H hD; exact wpIn_exit ⟨.exit id, tm, ρ, hp, M, F, rfl, h, hk, Ext.refl _ _, H, Gr.refl M F, Same.refl w, hD, .refl ..⟩
  | region id ops draw =>
    intro ro n k0 tm hp M K _ hg hk h ρ F w a H hD
    have hreg : ∀ (K : Ex → List SV → List Ent → HL → Prop), vReg Γ draw (ops.toList.map (cpo P ops)) (if draw then (cutOf (pl id)).getD (pl id) else .done) tm hp M K → (Code.region id ops draw).wpIn (Wd ro) n P (CPost K k0 ρ M F w a.defers) a w :=
      fun K h => region_sound hG hm k0 hg hk h H hD
    cases hc : cutOf (pl id) with
    | none =>
      have e : ccode P pl (.region id ops draw) = .ops draw (ops.toList.map (cpo P ops)) (if draw then pl id else .done) := by simp only [ccode, hc]
      rw [e] at h
      rw [hc] at hreg
      exact hreg K h
    | some r =>
      have e : ccode P pl (.region id ops draw) = .cut (.ops draw (ops.toList.map (cpo P ops)) (if draw then r else .done)) := by simp only [ccode, hc]
      rw [e] at h
      rw [hc] at hreg
      change vCut k0 .skip (vReg Γ draw (ops.toList.map (cpo P ops)) (if draw then r else .done)) tm hp M K at h
      obtain ⟨I, h1, h2⟩ := h
      refine wpIn_mono (hreg _ h1) fun e a' w' hc => ?_
      obtain ⟨ex, tm', ρ', hp', M', F', e1, e2, e3, e4, e5, e6, e7, e8, e9⟩ := hc
      cases ex with
      | normal =>
        subst e1
        obtain ⟨m, tm3, hp3, hwk⟩ := e2
        obtain ⟨hI, ρ3, H3, hD3, hE3, hk3⟩ := Wk_spec hwk e5 e8
        exact ⟨.normal, tm3, ρ3, hp3, M', F', rfl, h2 _ _ _ hI, hk3, e4.trans hE3, H3, e6, e7, hD3, e9⟩
      | exit id => subst e1; exact ⟨.exit id, tm', ρ', hp', M', F', rfl, e2, e3, e4, e5, e6, e7, e8, e9⟩
      | ret => subst e1; exact ⟨.ret, tm', ρ', hp', M', F', rfl, e2, e3, e4, e5, e6, e7, e8, e9⟩
  | seq x y ihx ihy =>
    intro ro n k0 tm hp M K hr hg hk h ρ F w a H hD
    simp only [guardsAll, Bool.and_eq_true] at hg
    have hrx : ro = none ∨ noRange x = true := hr.imp id fun h => by simp only [noRange, Bool.and_eq_true] at h; exact h.1
    have hry : ro = none ∨ noRange y = true := hr.imp id fun h => by simp only [noRange, Bool.and_eq_true] at h; exact h.2
    change vSeq (ccode P pl x) (ccode P pl y) (vc Γ k0 (ccode P pl x)) (vc Γ k0 (ccode P pl y)) tm hp M K at h
    unfold vSeq at h
    refine wpIn_seq (wpIn_mono (ihx ro n k0 tm hp M _ hrx hg.1 hk h ρ F w a H hD) fun e a' w' hc => ?_)
    obtain ⟨ex, tm', ρ', hp', M', F', e1, e2, e3, e4, e5, e6, e7, e8, e9⟩ := hc
    cases ex with
    | normal =>
      subst e1
      refine wpIn_mono (ihy ro n k0 tm' hp' M' K hry hg.2 e3 e2 ρ' F' w' a' e5 e8) fun e a2 w2 hc => ?_
      obtain ⟨ex, tm2, ρ2, hp2, M2, F2, f1, f2, f3, f4, f5, f6, f7, f8, f9⟩ := hc
      exact ⟨ex, tm2, ρ2, hp2, M2, F2, f1, f2, f3, e4.trans f4, f5, e6.trans f6, e7.trans f7, f8, e9.trans f9 e6.fr f6⟩
    | exit id => subst e1; exact ⟨.exit id, tm', ρ', hp', M', F', rfl, e2, e3, e4, e5, e6, e7, e8, e9⟩
    | ret => subst e1; exact ⟨.ret, tm', ρ', hp', M', F', rfl, e2, e3, e4, e5, e6, e7, e8, e9⟩
  | cond c x y ihx ihy =>
    intro ro n k0 tm hp M K hr hg hk h ρ F w a H hD
    simp only [guardsAll, Bool.and_eq_true] at hg
    have hrx : ro = none ∨ noRange x = true := hr.imp id fun h => by simp only [noRange, Bool.and_eq_true] at h; exact h.1
    have hry : ro = none ∨ noRange y = true := hr.imp id fun h => by simp only [noRange, Bool.and_eq_true] at h; exact h.2
    change vCond (carg c) (ccode P pl x) (ccode P pl y) (vc Γ k0 (ccode P pl x)) (vc Γ k0 (ccode P pl y)) tm hp M K at h
    unfold vCond at h
    have hc := ev_den hD c
    split at h
    · rename_i t he
      rw [he] at hc
      simp only [Den] at hc
      cases t with
      | true => exact wpIn_cond_true hc.symm (ihx ro n k0 tm hp M K hrx hg.1 hk (h.t rfl) ρ F w a H hD)
      | false => exact wpIn_cond_false hc.symm (ihy ro n k0 tm hp M K hry hg.2 hk (h.f rfl) ρ F w a H hD)
    · exact h.elim
  | block id c ih =>
    intro ro n k0 tm hp M K hr hg hk h ρ F w a H hD
    change vBlock id (ccode P pl c) (vc Γ k0 (ccode P pl c)) tm hp M K at h
    unfold vBlock at h
    refine wpIn_block (wpIn_mono (ih ro n k0 tm hp M _ hr hg hk h ρ F w a H hD) fun e a' w' hc => ?_)
    obtain ⟨ex, tm', ρ', hp', M', F', e1, e2, e3⟩ := hc
    cases ex with
    | normal => subst e1; exact ⟨.normal, tm', ρ', hp', M', F', rfl, e2, e3⟩
    | ret => subst e1; exact ⟨.ret, tm', ρ', hp', M', F', rfl, e2, e3⟩
    | exit j =>
      subst e1
      simp only [Exit.inBlock]
      dsimp only at e2
      split at e2
      · rename_i hj
        have hj := Nat.eq_of_beq_eq_true hj
        rw [if_pos hj]
        exact ⟨.normal, tm', ρ', hp', M', F', rfl, e2, e3⟩
      · rename_i hj
        rw [if_neg (Nat.ne_of_beq_eq_false hj)]
        exact ⟨.exit j, tm', ρ', hp', M', F', rfl, e2, e3⟩
  | loop c ih =>
    intro ro n k0 tm hp M K hr hg hk h ρ F w a H hD
    change vLoop k0 (ccode P pl c) (vc Γ k0 (ccode P pl c)) tm hp M K at h
    unfold vLoop at h
    obtain ⟨I, ⟨i, m, tm1, hp1, hwk⟩, hround⟩ := h
    obtain ⟨hI, ρ1, H1, hD1, hE1, hk1⟩ := Wk_spec hwk H hD
    refine wpIn_loopN (fun i a' w' => ∃ tm' ρ' hp' M' F', I i tm' hp' M' ∧ k0 ≤ hp'.length ∧ Ext k0 ρ ρ' ∧ Holds ρ' hp' M' F' w' ∧ Gr M F M' F' ∧ Same w w' ∧ DenL ρ' tm' a'.tmps.toList ∧ Mrk a.defers F M' F' a'.defers)
      (fun i a' w' hI => ?_) (n := i) ⟨tm1, ρ1, hp1, M, F, hI, hk1, hE1, H1, Gr.refl M F, Same.refl w, hD1, .refl ..⟩
    obtain ⟨tm2, ρ2, hp2, M2, F2, hI, hk2, hE2, H2, hF2, hS2, hD2, hd2⟩ := hI
    refine wpIn_mono (ih ro n k0 tm2 hp2 M2 _ hr hg hk2 (hround K rfl i tm2 hp2 M2 hI) ρ2 F2 w' a' H2 hD2) fun e a3 w3 hc => ?_
    obtain ⟨ex, tm3, ρ3, hp3, M3, F3, e1, e2, e3, e4, e5, e6, e7, e8, e9⟩ := hc
    have hd3 := hd2.trans e9 hF2.fr e6
    cases ex with
    | normal =>
      subst e1
      obtain ⟨n', m', tm4, hp4, hlt, hwk'⟩ := e2
      obtain ⟨hI', ρ4, H4, hD4, hE4, hk4⟩ := Wk_spec hwk' e5 e8
      exact ⟨n', hlt, tm4, ρ4, hp4, M3, F3, hI', hk4, (hE2.trans e4).trans hE4, H4, hF2.trans e6, hS2.trans e7, hD4, hd3⟩
    | exit id => subst e1; exact ⟨.exit id, tm3, ρ3, hp3, M3, F3, rfl, e2, e3, hE2.trans e4, e5, hF2.trans e6, hS2.trans e7, e8, hd3⟩
    | ret => subst e1; exact ⟨.ret, tm3, ρ3, hp3, M3, F3, rfl, e2, e3, hE2.trans e4, e5, hF2.trans e6, hS2.trans e7, e8, hd3⟩
  | rangeFunc f ps x y ihx ihy =>
    intro ro n k0 tm hp M K hr hg hk h ρ F w a H hD
    obtain rfl : ro = none := hr.resolve_right (by simp [noRange])
    simp only [guardsAll, Bool.and_eq_true] at hg
    exact range_sound hB ihx ihy hg.1.1.1 hg.1.1.2 hg.1.2 hg.2 n k0 hk h H hD
  | _ => intro ro n k0 tm hp M K _ _ hk h; exact h.elim
end Go.Vc
/-
  Symbolic execution, part O: functions: their results, their contracts.
-/
namespace Go.Vc

inductive PR where
  | t (n : Nat) | cell (n : Nat) (s : Option Nat) | bad
structure PFn where
  nt : Nat
  res : List PR
  code : PCode
def cres (P : Program) : ResultVar → PR
  | .tmp t => .t t
  | .cell a t => if (P.underlying t).isSome = true ∧ (P.info? t).isSome = true then .cell a (sizeO P t) else .bad
def cfn (P : Program) (pl : Nat → DT) (fn : Func) (c : Code) : PFn := { nt := fn.ntmps, res := fn.results.toList.map (cres P), code := ccode P pl c }

def dtGet : List (Nat × DT) → Nat → DT
  | [], _ => .done
  | (j, d) :: r, i => match Nat.beq j i with
    | true => d
    | false => dtGet r i

def padN : Nat → List SV → List SV
  | 0, l => l
  | n + 1, [] => .v undef :: padN n []
  | n + 1, x :: l => x :: padN n l
def padK : Nat → List SV → (List SV → Prop) → Prop
  | 0, l, K => K l
  | n + 1, [], K => padK n [] fun l => K (.v undef :: l)
  | n + 1, x :: r, K => padK n r fun l => K (x :: l)
theorem padK_eq : ∀ (n : Nat) (l : List SV) (K : List SV → Prop), padK n l K = K (padN n l)
  | 0, _, _ => by simp [padK, padN]
  | n + 1, [], K => by simp [padK, padN, padK_eq n]
  | n + 1, x :: r, K => by simp [padK, padN, padK_eq n]
def vResL : List PR → List SV → List Ent → HL → (List SV → Prop) → Prop
  | [], _, _, _, K => K []
  | .t n :: r, tm, hp, M, K => force (sget tm n) fun s => vResL r tm hp M fun l => K (s :: l)
  | .cell n s :: r, tm, hp, M, K => vLoad s (sget tm n) hp M fun v => vResL r tm hp M fun l => K (v :: l)
  | .bad :: _, _, _, _, _ => False
def one1 (l : List SV) : SV :=
  match l with
  | [x] => x
  | l => .tup l
def one1K (l : List SV) (K : SV → Prop) : Prop :=
  match l with
  | [x] => K x
  | l => K (.tup l)
theorem one1K_eq (l : List SV) (K : SV → Prop) : one1K l K = K (one1 l) := by
  unfold one1K one1
  split <;> rfl
def vRes (rs : List PR) (tm : List SV) (hp : List Ent) (M : HL) (K : SV → Prop) : Prop := vResL rs tm hp M fun l => one1K l K
/-- A function, by its text. -/
noncomputable def runF (Γ : Nat → Option Trans) (pf : PFn) : Trans := fun args hp M K =>
  padK pf.nt args fun tm => vc Γ (llen hp) pf.code tm hp M fun e tm hp' M' => match e with
    | .normal => vRes pf.res tm hp' M' fun v => K v hp' M'
    | .ret => vRes pf.res tm hp' M' fun v => K v hp' M'
    | .exit _ => False

theorem padN_den {ρ : Nat → Loc} : ∀ (n : Nat) {l : List SV} {vs : List Value}, DenL ρ l vs → DenL ρ (padN n l) (vs ++ List.replicate (n - vs.length) undef)
  | 0, l, vs, h => by simpa [padN] using h
  | n + 1, [], [], _ => by
    simp only [padN, List.length_nil, Nat.sub_zero, List.nil_append, List.replicate_succ, DenL]
    exact ⟨rfl, by simpa using padN_den n (l := []) (vs := []) (by simp [DenL])⟩
  | n + 1, x :: l, v :: vs, h => by
    simp only [DenL] at h
    simp only [padN, List.cons_append, DenL, List.length_cons, Nat.add_sub_add_right]
    exact ⟨h.1, padN_den n h.2⟩
  | _ + 1, [], _ :: _, hd => by simp [DenL] at hd
  | _ + 1, _ :: _, [], hd => by simp [DenL] at hd

theorem sget_den {ρ : Nat → Loc} {tm : List SV} {a : Array Value} (hD : DenL ρ tm a.toList) (n : Nat) : Den ρ (sget tm n) (a.getD n undef) := by
  cases h : tm[n]? with
  | none => rw [sget_none h]; simp [Den]
  | some s =>
    obtain ⟨v, h1, h2⟩ := hD.get h
    rw [sget_some h]
    have : a.getD n undef = v := by
      simp at h1
      simp [h1]
    rw [this]; exact h2

def resM (tmps : Array Value) : ResultVar → Sem Value
  | .tmp t => pure (tmps.getD t undef)
  | .cell a t => do loadVar t (← asAddr (tmps.getD a undef))
theorem results_eq (fn : Func) (tmps : Array Value) : results fn tmps = (do let vs ← fn.results.mapM (resM tmps); pure (if h : vs.size = 1 then vs[0] else .tuple vs)) := by
  have : resM tmps = (fun x => match x with | .tmp t => pure (tmps.getD t undef) | .cell a t => (do loadVar t (← asAddr (tmps.getD a undef)))) := by
    funext x; cases x <;> rfl
  rw [this]
  rfl

theorem vResL_sound {P : Program} {ρ : Nat → Loc} {tm : List SV} {hp : List Ent} {M F : HL} {w : World} {tmps : Array Value} (H : Holds ρ hp M F w) (hD : DenL ρ tm tmps.toList) : ∀ (rs : List ResultVar) (K : List SV → Prop), vResL (rs.map (cres P)) tm hp M K →
    ∃ l vs, K l ∧ DenL ρ l vs ∧ l.length = rs.length ∧ (rs.mapM (resM tmps)).run P w = .ok vs w
  | [], K, h => ⟨[], [], h, by simp [DenL], rfl, by simp⟩
  | .tmp t :: rs, K, h => by
    simp only [List.map_cons, cres, vResL, force_eq] at h
    obtain ⟨l, vs, h1, h2, h3, h4⟩ := vResL_sound H hD rs _ h
    exact ⟨sget tm t :: l, tmps.getD t undef :: vs, h1, by simp only [DenL]; exact ⟨sget_den hD t, h2⟩, by simp [h3], by simp [List.mapM_cons, h4, resM]⟩
  | .cell a t :: rs, K, h => by
    simp only [List.map_cons, cres] at h
    split at h
    case isFalse => simp [vResL] at h
    rename_i hside
    obtain ⟨hu, hi⟩ := hside
    simp only [vResL] at h
    obtain ⟨ad, y, sv, h1, h2, h3, h4⟩ := vLoad_sound h H (sget_den hD a)
    obtain ⟨d, hd⟩ := Option.isSome_iff_exists.1 hu
    obtain ⟨i, hi⟩ := Option.isSome_iff_exists.1 hi
    obtain ⟨l, vs, h5, h6, h7, h8⟩ := vResL_sound H hD rs _ h3
    have hag : (isAgg t).run P w = .ok (isAggT P t) w := by
      cases d <;> simp [isAgg, isAggT, run_underlying hd, hd]
    have hload : (loadVar t ad).run P w = .ok y w := by
      unfold sizeO at h2
      cases hb : isAggT P t with
      | true =>
        simp only [hb, if_true, Finds] at h2
        obtain ⟨cs, rfl, hcl, hcs⟩ := h2
        have hl := run_loadCells_list (P := P) w ad cs hcs
        rw [hcl] at hl
        simp only [szOf, hi, Option.map_some, Option.getD_some] at hl
        simp [loadVar, hag, hb, sizeOf, typeInfo, hi, hl]
      | false =>
        simp only [hb, Bool.false_eq_true, if_false, Finds] at h2
        simp [loadVar, hag, hb, h2]
    refine ⟨sv :: l, y :: vs, h5, by simp only [DenL]; exact ⟨h4, h6⟩, by simp [h7], ?_⟩
    simp [List.mapM_cons, resM, h1, asAddr, hload, h8]

theorem vRes_sound {P : Program} {ρ : Nat → Loc} {tm : List SV} {hp : List Ent} {M F : HL} {w : World} {tmps : Array Value} (H : Holds ρ hp M F w) (hD : DenL ρ tm tmps.toList) (fn : Func) {K : SV → Prop} (h : vRes (fn.results.toList.map (cres P)) tm hp M K) :
    ∃ sv v, K sv ∧ Den ρ sv v ∧ (results fn tmps).run P w = .ok v w := by
  obtain ⟨l, vs, h1, h2, h3, h4⟩ := vResL_sound H hD fn.results.toList _ h
  rw [one1K_eq] at h1
  have hrun : (results fn tmps).run P w = .ok (if h : vs.toArray.size = 1 then vs.toArray[0] else .tuple vs.toArray) w := by
    rw [results_eq, Array.mapM_eq_mapM_toList]
    simp only [Sem.run_bind, Sem.run_map, h4, Result.andThen_ok, Sem.run_pure]
  have hlen := h2.length
  match l, vs, h1, h2, hlen, hrun with
  | [x], [v], h1, h2, _, hrun =>
    simp only [DenL] at h2
    exact ⟨x, v, h1, h2.1, by simpa using hrun⟩
  | [], [], h1, h2, _, hrun => exact ⟨.tup [], _, h1, ⟨[], rfl, h2⟩, by simpa using hrun⟩
  | x :: y :: l, u :: v :: vs, h1, h2, _, hrun => exact ⟨.tup (x :: y :: l), _, h1, ⟨_, rfl, h2⟩, by simpa using hrun⟩
  | [], _ :: _, _, _, hl, _ => simp at hl
  | _ :: _, [], _, _, hl, _ => simp at hl
  | [_], _ :: _ :: _, _, _, hl, _ => simp at hl
  | _ :: _ :: _, [_], _, _, hl, _ => simp at hl

/-- Behind a body: the marks are taken up. -/
theorem leaves_marks {P : Program} {n : Nat} {fn : Func} {tmps : Array Value} {K : SV → List Ent → HL → Prop} {k0 : Nat} {ρ ρ' : Nat → Loc} {hp' : List Ent} {M F M' : HL} {w : World} {tm' : List SV} (h : vRes (fn.results.toList.map (cres P)) tm' hp' M' fun v => K v hp' M')
    (hk : k0 ≤ hp'.length) (hx : Ext k0 ρ ρ') (hD : DenL ρ' tm' tmps.toList) : ∀ (ds : List Nat) (F' : HL) (w' : World), Holds ρ' hp' M' F' w' → Gr M F M' F' → Same w w' → ds.Nodup → (∀ D ∈ ds, F' D = some (.deferred (some [])) ∧ F D = none ∧ M' D = none) →
      LeavesInM (Wd none) n P fn tmps (fun e w'' => ∃ v, e = .returned v ∧ Post K k0 ρ M F w v w'') (ds.map coll) .returning w'
  | [], F', w', H', hG, hS, _, _ => by
    obtain ⟨sv, v, h1, h2, h3⟩ := vRes_sound (P := P) H' hD fn h
    exact ⟨v, h3, v, rfl, sv, ρ', hp', M', F', h1, hk, hx, H', hG, hS, h2⟩
  | D :: ds, F', w', H', hG, hS, hnd, hds => by
    obtain ⟨hF, hF0, hM⟩ := hds D (by simp)
    have hnd' := List.nodup_cons.1 hnd
    have hheap := H'.frm D _ hF
    have hno : ∀ m, ¬ owns ρ' hp' m D := fun m hm => by rw [H'.out m D hm] at hF; cases hF
    refine ⟨by simp, .inl ⟨D, w'.putObj D (.deferred none), rfl, run_takeDeferred hheap, ?_⟩⟩
    have hin : ∀ k o, (if k = D then none else F' k) = some o → k ≠ D ∧ F' k = some o := fun k o hk => by
      by_cases e : k = D
      · rw [if_pos e] at hk; cases hk
      · rw [if_neg e] at hk; exact ⟨e, hk⟩
    refine leaves_marks h hk hx hD ds (fun k => if k = D then none else F' k) _ (H'.put hno (fun k o hk => ?_) (fun k o hk => ?_) (fun m b hb => ?_)) ⟨fun k o hk => ?_, hG.kn, hG.n⟩ ⟨hS.os, hS.tape, hS.output, ?_⟩ hnd'.2 fun D2 h2 => ?_
    · obtain ⟨h1, h2⟩ := hin k o hk
      rw [World.putObj_heap_other h1]
      exact H'.frm k o h2
    · rw [if_neg (fun e => by rw [e, hM] at hk; cases hk)]
      exact H'.sub k o hk
    · split
      · rfl
      · exact H'.out m b hb
    · rw [if_neg (fun e => by rw [e, hF0] at hk; cases hk)]
      exact hG.fr k o hk
    · have := hS.size
      show w.heap.size ≤ (w'.heap.setIfInBounds D _).size
      simpa using this
    · obtain ⟨h3, h4, h5⟩ := hds D2 (by simp [h2])
      refine ⟨?_, h4, h5⟩
      rw [if_neg (fun (e : D2 = D) => hnd'.1 (e ▸ h2))]
      exact h3

/-- A function's text is its contract. -/
theorem runF_ok {P : Program} {Γ : Nat → Option Trans} (hG : GOK P Γ) (hm : P.follows .mixedOrders = true) (pl : Nat → DT) {f : FuncId} {fn : Func} {c : Code} (hf : P.funcs[f]? = some fn) (hb : fn.body = some c) (hn : (fn.name == "runtime.NumGoroutine") = false) (hg : guardsAll pl c = true) (hB : ∀ g s, lookB g (bkOf (pl 999999)) = some s → IsBack P g s) : TOK P f (runF Γ (cfn P pl fn c)) := by
  refine ⟨⟨fn, hf, by simp [hb], hn⟩, fun args hp M K h ρ F w vs H hD => ?_⟩
  refine (callsIn_wide (n := 1)).1 (callsIn_of_wp_marks (F := Wd none) hf hb trivial ?_ rfl)
  have hD' := padN_den fn.ntmps hD
  have htm : (vs.toArray ++ Array.replicate (fn.ntmps - vs.toArray.size) undef).toList = vs ++ List.replicate (fn.ntmps - vs.length) undef := by simp
  rw [← htm] at hD'
  simp only [runF, cfn, llen_eq, padK_eq] at h
  refine wpIn_mono (vc_sound hG hm pl hB c none 1 hp.length _ hp M _ (.inl rfl) hg (Nat.le_refl _) h ρ F w { tmps := vs.toArray ++ Array.replicate (fn.ntmps - vs.toArray.size) undef, defers := [] } H hD') fun e a' w' hc => ?_
  obtain ⟨ex, tm', ρ', hp', M', F', e1, e2, e3, e4, e5, e6, e7, e8, ds, e9, e10, e11⟩ := hc
  rw [List.append_nil] at e9
  have fin : vRes (fn.results.toList.map (cres P)) tm' hp' M' (fun v => K v hp' M') → LeavesInM (Wd none) 1 P fn a'.tmps (fun e w'' => ∃ v, e = .returned v ∧ Post K hp.length ρ M F w v w'') a'.defers .returning w' := fun hr => by
    rw [e9]
    exact leaves_marks hr e3 e4 e8 ds F' w' e5 e6 e7 e10 e11
  cases ex with
  | normal => subst e1; exact fin e2
  | ret => subst e1; exact fin e2
  | exit id => exact e2.elim

/-- The same, from one equation with the program. -/
theorem runF_eq {P : Program} {Γ : Nat → Option Trans} (hG : GOK P Γ) (hm : P.follows .mixedOrders = true) {pl : Nat → DT} {f : FuncId} {fn : Func} {pf : PFn} (hf : P.funcs[f]? = some fn) (hn : (fn.name == "runtime.NumGoroutine") = false)
    (h : (fn.body.map fun c => (cfn P pl fn c, guardsAll pl c)) = some (pf, true)) (h0 : bkOf (pl 999999) = [] := by rfl) : TOK P f (runF Γ pf) := by
  obtain ⟨c, hb, hc⟩ := Option.map_eq_some_iff.1 h
  have h1 : cfn P pl fn c = pf := congrArg Prod.fst hc
  have h2 : guardsAll pl c = true := congrArg Prod.snd hc
  rw [← h1]
  exact runF_ok hG hm pl hf hb hn h2 fun g s hs => by rw [h0] at hs; cases hs
/-- The same, of a function that ranges over slices.Backward. -/
theorem runF_eqB {P : Program} {Γ : Nat → Option Trans} (hG : GOK P Γ) (hm : P.follows .mixedOrders = true) {pl : Nat → DT} {f : FuncId} {fn : Func} {pf : PFn} (hf : P.funcs[f]? = some fn) (hn : (fn.name == "runtime.NumGoroutine") = false)
    (h : (fn.body.map fun c => (cfn P pl fn c, guardsAll pl c)) = some (pf, true)) (hB : ∀ g s, lookB g (bkOf (pl 999999)) = some s → IsBack P g s) : TOK P f (runF Γ pf) := by
  obtain ⟨c, hb, hc⟩ := Option.map_eq_some_iff.1 h
  have h1 : cfn P pl fn c = pf := congrArg Prod.fst hc
  have h2 : guardsAll pl c = true := congrArg Prod.snd hc
  rw [← h1]
  exact runF_ok hG hm pl hf hb hn h2 hB
/-- The closure of slices.Backward, from its text. -/
theorem IsBack.of {P : Program} {g : Nat} {s : Option Nat} {fn : Func} {pl : Nat → DT} {pf : PFn} (hf : P.funcs[g]? = some fn ∧ (fn.name == "runtime.NumGoroutine") = false) (h : (fn.body.map fun c => (cfn P pl fn c, guardsAll pl c)) = some (pf, true)) (he : pf = ⟨19, [], backPC s⟩) : IsBack P g s := by
  obtain ⟨c, hb, hc⟩ := Option.map_eq_some_iff.1 h
  have h1 : cfn P pl fn c = ⟨19, [], backPC s⟩ := (congrArg Prod.fst hc).trans he
  have h2 : guardsAll pl c = true := congrArg Prod.snd hc
  have h3 : fn.results.toList.map (cres P) = [] := congrArg PFn.res h1
  exact ⟨fn, c, pl, hf.1, hb, hf.2, congrArg PFn.nt h1, by simpa using List.map_eq_nil_iff.1 h3, congrArg PFn.code h1, h2⟩
end Go.Vc
