/-
  Symbolic execution, part Q: regions whose order is drawn are sound.
-/
import Derived.Test.YthomcgclkbmnkaaDoorVcm
namespace Go.Vc

/-- A guard, met. -/
theorem gate_spec {ρ : Nat → Loc} {ops : Array Oper} {o : Oper} {tm : List SV} {A B : List SV → Prop} {a : Act} (h : gate (o.guard.bind fun (j, want) => ((ops[j]?).bind (·.dst)).map fun t => (t, want)) tm A B) (hD : DenL ρ tm a.tmps.toList)
    (hg : ∀ j want, o.guard = some (j, want) → ((ops[j]?).bind (·.dst)).isSome = true) :
    ∃ tm', DenL ρ tm' a.tmps.toList ∧ ((Region.wanted o (yielded ops a.tmps) = true ∧ A tm') ∨ (Region.wanted o (yielded ops a.tmps) = false ∧ B tm')) := by
  unfold gate at h
  cases hgd : o.guard with
  | none => simp [hgd] at h; exact ⟨tm, hD, .inl ⟨by simp [Region.wanted, hgd], h⟩⟩
  | some jw =>
    obtain ⟨j, want⟩ := jw
    obtain ⟨t, ht⟩ := Option.isSome_iff_exists.1 (hg j want hgd)
    simp only [hgd, Option.bind_some, ht, Option.map_some] at h
    have hyield : yielded ops a.tmps j = match a.tmps[t]? with | some (.bool b) => some b | _ => none := by
      unfold yielded
      rw [ht]
      rfl
    have hget : ∀ x, sget tm t = .v x → a.tmps[t]? = some x ∧ t < tm.length := by
      intro x hx
      cases hs : tm[t]? with
      | none => rw [sget_none hs] at hx; cases hx
      | some s =>
        rw [sget_some hs] at hx
        subst hx
        obtain ⟨v, h1, h2⟩ := hD.get hs
        simp only [Den] at h2
        subst h2
        exact ⟨by simpa using h1, (List.getElem?_eq_some_iff.1 hs).1⟩
    have hset : ∀ b, a.tmps[t]? = some (.bool b) → DenL ρ (tm.set t (.v (.bool b))) a.tmps.toList := by
      intro b hb
      have := hD.set (x := .v (.bool b)) (v := .bool b) (by simp [Den]) t
      have he : a.tmps.toList.set t (.bool b) = a.tmps.toList := by
        apply List.ext_getElem?
        intro i
        by_cases hi : t = i
        · subst hi
          rw [List.getElem?_set]
          simp only [if_true]
          split
          · simpa using hb.symm
          · rename_i hlt; rw [List.getElem?_eq_none (by omega)]
        · rw [List.getElem?_set_ne hi]
      rwa [he] at this
    split at h
    · rename_i b hs
      obtain ⟨hb, _⟩ := hget _ hs
      rw [hb] at hyield
      simp only at hyield
      have hw : Region.wanted o (yielded ops a.tmps) = (b == want) := by
        simp only [Region.wanted, hgd, hyield]
        cases b <;> cases want <;> rfl
      split at h
      · cases b with
        | true =>
          have h1 := h.t rfl
          rw [sset_iff] at h1
          exact ⟨_, hset _ hb, .inl ⟨by rw [hw]; rfl, h1⟩⟩
        | false =>
          have h1 := h.f rfl
          rw [sset_iff] at h1
          exact ⟨_, hset _ hb, .inr ⟨by rw [hw]; rfl, h1⟩⟩
      · cases b with
        | true =>
          have h1 := h.t rfl
          rw [sset_iff] at h1
          exact ⟨_, hset _ hb, .inr ⟨by rw [hw]; rfl, h1⟩⟩
        | false =>
          have h1 := h.f rfl
          rw [sset_iff] at h1
          exact ⟨_, hset _ hb, .inl ⟨by rw [hw]; rfl, h1⟩⟩
    · rename_i vs hs
      obtain ⟨hb, _⟩ := hget _ hs
      rw [hb] at hyield
      simp only at hyield
      exact ⟨tm, hD, .inr ⟨by simp [Region.wanted, hgd, hyield], h⟩⟩
    · exact h.elim

/-- Every guard leads to a slot. -/
def guardsOK (ops : Array Oper) : Bool :=
  ops.toList.all fun o => match o.guard with | none => true | some (j, _) => ((ops[j]?).bind (·.dst)).isSome

theorem guards_spec {ops : Array Oper} (h : guardsOK ops = true) : ∀ o ∈ ops.toList, ∀ j want, o.guard = some (j, want) → ((ops[j]?).bind (·.dst)).isSome = true := by
  intro o ho j want hg
  unfold guardsOK at h
  have := List.all_eq_true.1 h o ho
  simpa [hg] using this


theorem holds_drawn {ρ : Nat → Loc} {hp : List Ent} {M F : HL} {w : World} {n : Nat} (H : Holds ρ hp M F w) : Holds ρ hp M F { w with drawn := n } := by
  refine ⟨fun k e he => (H.ent k e he).keep (fun _ _ h => h) rfl (FLe.refl M) fun _ _ _ _ _ => rfl, H.sep, H.out, H.frm, H.sub, H.dom⟩

theorem getO_map {f : Oper → PO} : ∀ (l : List Oper) (i : Nat), getO (l.map f) i = (l[i]?).map f
  | [], _ => by simp [getO]
  | _ :: _, 0 => by simp [getO]
  | _ :: r, n + 1 => by simp [getO, getO_map r n]

theorem memN_iff {i : Nat} : ∀ {l : List Nat}, memN i l = true ↔ i ∈ l
  | [] => by simp [memN]
  | j :: r => by
    unfold memN
    cases h : Nat.beq i j with
    | true => have := Nat.eq_of_beq_eq_true h; simp [this]
    | false => have := Nat.ne_of_beq_eq_false h; simp [this, memN_iff]

/-- Whether an operation may change the world. -/
def EE (P : Program) (ops : Array Oper) (d : Nat) : Bool := match ops[d]? with
  | some o => isE (cop P o)
  | none => false
/-- What a mark means: 'S' holds in a world where the load finds the same value; or one that waits for the load has come. -/
def MkOK (E : Nat → Bool) (l : Array Bool) (n : Nat) (ρ : Nat → Loc) (w : World) : Mk → List Nat × (World → Prop) → Prop
  | .live d s ad v, m => m.1 = d ∧ (∀ w', Keeps w w' → m.2 w') ∧ ∃ k, k ≤ n ∧ ∀ ρ' hp' M' F' w' K, Ext k ρ ρ' → Holds ρ' hp' M' F' w' → vLoad s ad hp' M' (fun v' => rig v v' K) → K ∧ ∀ w'', Keeps w' w'' → m.2 w''
  | .dead d, m => m.1 = d ∧ ∃ e ∈ d, E e = true ∧ l.getD e true = true

def MksOK (E : Nat → Bool) (l : Array Bool) (n : Nat) (ρ : Nat → Loc) (w : World) : List Mk → List (List Nat × (World → Prop)) → Prop
  | [], [] => True
  | a :: r, b :: q => MkOK E l n ρ w a b ∧ MksOK E l n ρ w r q
  | _, _ => False
def TM (E : Nat → Bool) (MS : List (List Nat × (World → Prop))) (l : Array Bool) (j : Nat) (w : World) : Prop := ∀ m ∈ MS, (∀ d ∈ m.1, E d = true → l.getD d true = false) → j ∉ m.1 → m.2 w

theorem listed_set {l : Array Bool} {e i : Nat} (h : l.getD e true = true) : (l.setIfInBounds i true).getD e true = true := by
  by_cases hi : i = e
  · subst hi
    by_cases hs : i < l.size
    · simp [hs]
    · simp [hs]
  · rw [getD_set_ne true hi]; exact h
theorem listed_self (l : Array Bool) (i : Nat) : (l.setIfInBounds i true).getD i true = true := by
  by_cases hs : i < l.size
  · simp [hs]
  · simp [hs]
theorem TM.back {E : Nat → Bool} {MS : List (List Nat × (World → Prop))} {i : Nat} (hE : E i = false) {l : Array Bool} {j : Nat} {w : World} (h : TM E MS (l.setIfInBounds i true) j w) : TM E MS l j w := fun m hm hl hj => h m hm (fun d hd he => by
  have hne : i ≠ d := fun e => by rw [e, he] at hE; cases hE
  rw [getD_set_ne true hne]
  exact hl d hd he) hj
theorem MksOK.listed {E : Nat → Bool} {l : Array Bool} {n : Nat} {ρ : Nat → Loc} {w : World} (i : Nat) : ∀ {marks : List Mk} {MS : List (List Nat × (World → Prop))}, MksOK E l n ρ w marks MS → MksOK E (l.setIfInBounds i true) n ρ w marks MS
  | [], [], _ => trivial
  | .live .. :: r, m :: MS, ⟨h, hr⟩ => ⟨h, MksOK.listed i hr⟩
  | .dead d :: r, m :: MS, ⟨⟨h1, e, h2, h3, h4⟩, hr⟩ => ⟨⟨h1, e, h2, h3, listed_set h4⟩, MksOK.listed i hr⟩
  | [], _ :: _, h => h.elim
  | _ :: _, [], h => by simp [MksOK] at h
theorem marksQ_spec {E : Nat → Bool} {l : Array Bool} (i : Nat) {n n' : Nat} {ρ ρ' : Nat → Loc} {w w' : World} (hk : Keeps w w') (hx : Ext n ρ ρ') (hn : n ≤ n') : ∀ {marks : List Mk} {MS : List (List Nat × (World → Prop))}, MksOK E l n ρ w marks MS → MksOK E (l.setIfInBounds i true) n' ρ' w' marks MS ∧ TM E MS l i w'
  | [], [], _ => ⟨trivial, fun _ h => by cases h⟩
  | .live d s ad v :: r, m :: MS, ⟨⟨h1, h2, k, h3, h4⟩, hr⟩ => by
    obtain ⟨h5, h6⟩ := marksQ_spec i hk hx hn hr
    refine ⟨⟨⟨h1, fun w'' hw => h2 w'' fun b o hb => hw b o (hk b o hb), k, by omega, fun ρ2 hp2 M2 F2 w2 K e1 e2 e3 => h4 ρ2 hp2 M2 F2 w2 K ((hx.mono h3).trans e1) e2 e3⟩, h5⟩, fun m' hm' hl hi => ?_⟩
    rcases List.mem_cons.1 hm' with rfl | hm'
    · exact h2 _ hk
    · exact h6 m' hm' hl hi
  | .dead d :: r, m :: MS, ⟨⟨h1, e, h2, h3, h4⟩, hr⟩ => by
    obtain ⟨h5, h6⟩ := marksQ_spec i hk hx hn hr
    refine ⟨⟨⟨h1, e, h2, h3, listed_set h4⟩, h5⟩, fun m' hm' hl hi => ?_⟩
    rcases List.mem_cons.1 hm' with rfl | hm'
    · rw [hl e (by rw [h1]; exact h2) h3] at h4; cases h4
    · exact h6 m' hm' hl hi
  | [], _ :: _, h => h.elim
  | _ :: _, [], h => by simp [MksOK] at h

theorem vMarks_spec {E : Nat → Bool} {l : Array Bool} {i n : Nat} (hE : E i = true) {ρ ρ' : Nat → Loc} {w w' : World} {hp' : List Ent} {M' F' : HL} (hx : Ext n ρ ρ') (H' : Holds ρ' hp' M' F' w') (hn : n ≤ hp'.length) :
    ∀ {marks : List Mk} {MS : List (List Nat × (World → Prop))} {K : List Mk → Prop}, vMarks i hp' M' marks K → MksOK E l n ρ w marks MS → ∃ marks', K marks' ∧ MksOK E (l.setIfInBounds i true) hp'.length ρ' w' marks' MS ∧ TM E MS l i w'
  | [], [], K, h, _ => ⟨[], h, trivial, fun _ h => by cases h⟩
  | .live d s ad v :: r, m :: MS, K, h, ⟨⟨h1, h2, k, h3, h4⟩, hr⟩ => by
    unfold vMarks at h
    split at h
    · rename_i hi
      obtain ⟨q, h5, h6, h7⟩ := vMarks_spec hE hx H' hn h hr
      refine ⟨_, h5, ⟨⟨h1, i, memN_iff.1 hi, hE, listed_self l i⟩, h6⟩, fun m' hm' hl hi' => ?_⟩
      rcases List.mem_cons.1 hm' with rfl | hm'
      · rw [h1] at hi'; exact absurd (memN_iff.1 hi) hi'
      · exact h7 m' hm' hl hi'
    · obtain ⟨h, hS⟩ := h4 ρ' hp' M' F' w' _ (hx.mono h3) H' h
      obtain ⟨q, h5, h6, h7⟩ := vMarks_spec hE hx H' hn h hr
      refine ⟨_, h5, ⟨⟨h1, hS, k, by omega, fun ρ2 hp2 M2 F2 w2 K e1 e2 e3 => h4 ρ2 hp2 M2 F2 w2 K ((hx.mono h3).trans e1) e2 e3⟩, h6⟩, fun m' hm' hl hi' => ?_⟩
      rcases List.mem_cons.1 hm' with rfl | hm'
      · exact hS _ (Keeps.refl _)
      · exact h7 m' hm' hl hi'
  | .dead d :: r, m :: MS, K, h, ⟨⟨h1, e, h2, h3, h4⟩, hr⟩ => by
    unfold vMarks at h
    obtain ⟨q, h5, h6, h7⟩ := vMarks_spec hE hx H' hn h hr
    refine ⟨_, h5, ⟨⟨h1, e, h2, h3, listed_set h4⟩, h6⟩, fun m' hm' hl hi' => ?_⟩
    rcases List.mem_cons.1 hm' with rfl | hm'
    · rw [hl e (by rw [h1]; exact h2) h3] at h4; cases h4
    · exact h7 m' hm' hl hi'
  | [], _ :: _, _, _, h => h.elim
  | _ :: _, [], _, _, h => by simp [MksOK] at h

theorem MksOK.mono {E : Nat → Bool} {l : Array Bool} {n n' : Nat} {ρ ρ' : Nat → Loc} {w : World} (hx : Ext n ρ ρ') (hn : n ≤ n') : ∀ {marks : List Mk} {MS : List (List Nat × (World → Prop))}, MksOK E l n ρ w marks MS → MksOK E l n' ρ' w marks MS
  | [], [], _ => trivial
  | .live .. :: r, m :: MS, ⟨⟨h1, h2, k, h3, h4⟩, hr⟩ => ⟨⟨h1, h2, k, by omega, fun ρ2 hp2 M2 F2 w2 K e1 e2 e3 => h4 ρ2 hp2 M2 F2 w2 K ((hx.mono h3).trans e1) e2 e3⟩, hr.mono hx hn⟩
  | .dead _ :: r, m :: MS, ⟨h1, hr⟩ => ⟨h1, hr.mono hx hn⟩
  | [], _ :: _, h => h.elim
  | _ :: _, [], h => by simp [MksOK] at h

theorem cell_keeps {w w' : World} (hk : Keeps w w') {a : Addr} {v : Value} (h : w.cell? a = some v) : w'.cell? a = some v := by
  unfold World.cell? at h ⊢
  cases hb : w.heap[a.block]? with
  | none => rw [hb] at h; cases h
  | some o => rw [hk _ _ hb]; rw [hb] at h; exact h
theorem Finds.keeps {s : Option Nat} {w w' : World} (hk : Keeps w w') {a : Addr} {v : Value} (h : Finds s w a v) : Finds s w' a v := by
  cases s with
  | none => exact cell_keeps hk h
  | some m =>
    obtain ⟨cs, h1, h2, h3⟩ := h
    exact ⟨cs, h1, h2, fun j v hj => cell_keeps hk (h3 j v hj)⟩

theorem cop_load {P : Program} {o : Oper} {s : Option Nat} {x : PArg} (h : cop P o = .load s x) : ∃ t x0, o.op = .load t x0 ∧ (P.underlying t).isSome = true ∧ (P.info? t).isSome = true ∧ s = sizeO P t ∧ x = carg x0 := by
  cases hop : o.op <;> simp only [cop, hop] at h
  case load t x0 =>
    split at h
    · rename_i hs
      cases h
      exact ⟨t, x0, rfl, hs.1, hs.2, rfl, rfl⟩
    · cases h
  all_goals
    first
      | cases h
      | (repeat' split at h) <;> cases h

theorem load_ok {P : Program} {o : Oper} {t : TypeId} {x : Operand} {a : Act} {w : World} {ad : Addr} {y : Value} (ho : o.op = .load t x) (hu : (P.underlying t).isSome = true) (hi : (P.info? t).isSome = true) (hv : a.eval x = .pointer (some ad)) (h2 : Finds (sizeO P t) w ad y) :
    (execOp a.eval o).run P w = .ok (.value y) w := by
  obtain ⟨d, hd⟩ := Option.isSome_iff_exists.1 hu
  obtain ⟨i, hi⟩ := Option.isSome_iff_exists.1 hi
  have hag : (isAgg t).run P w = .ok (isAggT P t) w := by
    cases d <;> simp [isAgg, isAggT, run_underlying hd, hd]
  unfold sizeO at h2
  cases hb : isAggT P t with
  | true =>
    simp only [hb, if_true, Finds] at h2
    obtain ⟨cs, rfl, hcl, hcs⟩ := h2
    have hl := run_loadCells_list (P := P) w ad cs hcs
    rw [hcl] at hl
    simp only [szOf, hi, Option.map_some, Option.getD_some] at hl
    simp [execOp, ho, Instr.loadAt, hv, Instr.sureAddr, loadVar, hag, hb, sizeOf, typeInfo, hi, hl]
  | false =>
    simp only [hb, Bool.false_eq_true, if_false, Finds] at h2
    simp [execOp, ho, Instr.loadAt, hv, Instr.sureAddr, loadVar, hag, hb, h2]

theorem takeOK_spec {md : Region.Mode} {ops : Array Oper} {l : Array Bool} {i : Nat} {deps : List Nat} (h : takeOK md ops l i deps = true) :
    i ∈ Region.ready md ops l ∧ i ∈ deps ∧ (∀ j ∈ deps, l.getD j true = false) ∧ (∀ j ∈ deps, j ≠ i → ∃ oj, ops[j]? = some oj ∧ ∃ e ∈ oj.after, Region.binds md e = true ∧ e.on ∈ deps) ∧
    ∃ oi, ops[i]? = some oi ∧ ∀ j oj, ops[j]? = some oj → j ∉ deps → l.getD j true = false → oi.apart ops oj = true := by
  simp only [takeOK, Bool.and_eq_true] at h
  obtain ⟨⟨⟨h1, h2⟩, h3⟩, h4⟩ := h
  have h3 := List.all_eq_true.1 h3
  refine ⟨by simpa using h1, by simpa using h2, fun j hj => ?_, fun j hj hne => ?_, ?_⟩
  · have := h3 j hj
    simp only [Bool.and_eq_true, Bool.not_eq_true'] at this
    exact this.1
  · have := h3 j hj
    simp only [Bool.and_eq_true, Bool.or_eq_true, beq_iff_eq] at this
    have := this.2.resolve_left hne
    split at this
    · rename_i oj hoj
      obtain ⟨e, he, hb⟩ := Array.any_eq_true'.1 this
      simp only [Bool.and_eq_true] at hb
      exact ⟨oj, hoj, e, he, hb.1, by simpa using hb.2⟩
    · cases this
  · split at h4
    · rename_i oi hoi
      refine ⟨oi, hoi, fun j oj hoj hjd hjl => ?_⟩
      have := List.all_eq_true.1 h4 j (List.mem_range.2 (Array.getElem?_eq_some_iff.1 hoj).1)
      simp only [hoj, Bool.or_eq_true, hjl, Bool.false_eq_true, or_false] at this
      exact this.resolve_left (by simpa using hjd)
    · cases h4

theorem coversB_spec {md : Region.Mode} {ops : Array Oper} {l : Array Bool} {h : List Nat} (hc : coversB md ops l h = true) : Region.ready md ops l ≠ [] ∧ ∀ j ∈ Region.ready md ops l, j ∈ h := by
  simp only [coversB, Bool.and_eq_true, Bool.not_eq_true', List.isEmpty_eq_false_iff] at hc
  refine ⟨hc.1, fun j hj => ?_⟩
  simpa using List.all_eq_true.1 hc.2 j hj

section
variable {P : Program} {Γ : Nat → Option Trans} {ops : Array Oper} {Q : Exit → Act → World → Prop} {d0 : List Deferred}

/-- What is to be shown at the end of the region. -/
def Fin (d0 : List Deferred) (Q : Exit → Act → World → Prop) (K : OK) (k0 : Nat) (ρ : Nat → Loc) (M F : HL) (w : World) : Prop :=
  ∀ tm' ρ' hp' M' F' a' w', K tm' hp' M' → k0 ≤ hp'.length → Ext k0 ρ ρ' → Holds ρ' hp' M' F' w' → Gr M F M' F' → Same w w' → DenL ρ' tm' a'.tmps.toList → a'.defers = d0 → Q .normal a' w'

theorem Fin.step {K : OK} {k0 : Nat} {ρ ρ' : Nat → Loc} {M F M' F' : HL} {w w' : World} (h : Fin d0 Q K k0 ρ M F w) (hx : Ext k0 ρ ρ') (hF : Gr M F M' F') (hS : Same w w') : Fin d0 Q K k0 ρ' M' F' w' :=
  fun tm2 ρ2 hp2 M2 F2 a2 w2 h1 h2 h3 h4 h5 h6 h7 h8 => h tm2 ρ2 hp2 M2 F2 a2 w2 h1 h2 (hx.trans h3) h4 (hF.trans h5) (hS.trans h6) h7 h8

theorem put_defers {a : Act} {d : Option Tmp} {v : Value} (h : a.defers = d0) : (a.put d v).defers = d0 := by cases d <;> exact h

theorem vDT_sound (hG : GOK P Γ) (hs : Region.noSelect ops = true) (hgs : ∀ o ∈ ops.toList, ∀ j want, o.guard = some (j, want) → ((ops[j]?).bind (·.dst)).isSome = true)
    (hQ : ∀ c a w, Q (.panic c) a w → False) (k0 : Nat) : ∀ (dt : DT) (K : OK),
    (∀ (fuel : Nat) (listed : Array Bool), dtOK .any ops dt true fuel listed = true → ∀ marks MS tm hp M, k0 ≤ hp.length → vDT Γ (ops.toList.map (cpo P ops)) dt marks tm hp M K →
      ∀ ρ F w a, Holds ρ hp M F w → DenL ρ tm a.tmps.toList → MksOK (EE P ops) listed hp.length ρ w marks MS → a.defers = d0 → Fin d0 Q K k0 ρ M F w → wpAnyT P .any ops Q (TM (EE P ops) MS) fuel listed a w) ∧
    (∀ (fuel : Nat) (listed : Array Bool), dtOK .any ops dt false (fuel + 1) listed = true → ∀ marks MS tm hp M, k0 ≤ hp.length → vDT Γ (ops.toList.map (cpo P ops)) dt marks tm hp M K →
      ∀ ρ F w a, Holds ρ hp M F w → DenL ρ tm a.tmps.toList → MksOK (EE P ops) listed hp.length ρ w marks MS → a.defers = d0 → Fin d0 Q K k0 ρ M F w →
      ∀ j ∈ dt.heads, wpOp P ops Q j (fun a' w' => (w' = w ∨ TM (EE P ops) MS listed j w') ∧ wpAnyT P .any ops Q (TM (EE P ops) MS) fuel (listed.setIfInBounds j true) a' w') a w) := by
  intro dt K
  have hgt : ∀ (i : Nat) (o : Oper), ops[i]? = some o → getO (ops.toList.map (cpo P ops)) i = some (cpo P ops o) := fun i o hi => by
    rw [getO_map]; simp [hi]
  have hgd : ∀ (i : Nat) (o : Oper), ops[i]? = some o → ∀ j want, o.guard = some (j, want) → ((ops[j]?).bind (·.dst)).isSome = true := fun i o hi => hgs o (by
    have := Array.mem_of_getElem? hi
    simpa using this)
  induction dt with
  | done =>
    refine ⟨fun fuel listed hok marks MS tm hp M hk h ρ F w a H hD hMs hd hfin => ?_, fun fuel listed hok => by simp [dtOK] at hok⟩
    simp only [dtOK, Bool.true_and, List.isEmpty_iff] at hok
    have hq : Q .normal a w := hfin tm ρ hp M F a w h hk (Ext.refl _ _) H (Gr.refl M F) (Same.refl w) hD hd
    cases fuel with
    | zero => exact ⟨hok, hq⟩
    | succ f => exact ⟨fun _ => hq, by rw [hok]; simp⟩
  | take i deps r ih =>
    refine ⟨fun fuel listed hok marks MS tm hp M hk h ρ F w a H hD hMs hd hfin => ?_, fun fuel listed hok => by simp [dtOK] at hok⟩
    cases fuel with
    | zero => simp [dtOK] at hok
    | succ f =>
      simp only [dtOK, Bool.true_and, Bool.and_eq_true] at hok
      obtain ⟨hr, hiD, hun, hcl, oi, hoi, hfree⟩ := takeOK_spec hok.1
      change dTake Γ _ i deps r (vDT Γ _ r) marks tm hp M K at h
      unfold dTake at h
      rw [hgt i oi hoi] at h
      dsimp only at h
      split at h
      · exact h.elim
      rename_i hEi0
      have hEi : EE P ops i = false := by unfold EE; rw [hoi]; exact hEi0
      obtain ⟨tm1, hD1, hor⟩ := gate_spec (o := oi) (ops := ops) h hD (hgd i oi hoi)
      -- taken first, whatever the world
      have pure : ∀ (v : Value) (tm2 : List SV), YieldsIf P ops (fun _ => True) oi v a → DenL ρ tm2 (a.put oi.dst v).tmps.toList → vDT Γ (ops.toList.map (cpo P ops)) r marks tm2 hp M K → wpAnyT P .any ops Q (TM (EE P ops) MS) (f + 1) listed a w := fun v tm2 hy hD2 h2 =>
        wpAnyT_first (T := TM (EE P ops) MS) (S := fun _ => True) hoi (fun j o cs b ho => Region.noSelect_spec hs j o cs b ho) (fun c a w h => (hQ _ _ _ h).elim) hcl (fun _ _ _ _ _ _ => trivial) hEi (fun _ _ _ h => TM.back hEi h) f listed a w hun hiD hfree hr hy trivial
          (ih.1 f _ hok.2 marks MS tm2 hp M hk h2 ρ F w _ H hD2 (hMs.listed i) (put_defers hd) hfin)
      rcases hor with ⟨hw, h1⟩ | ⟨hw, h1⟩
      · split at h1
        · rename_i s x hop
          obtain ⟨t, x0, ho, hu, hi, rfl, rfl⟩ := cop_load (show cop P oi = _ from hop)
          rw [force_eq] at h1
          have hda := ev_den hD1 x0
          obtain ⟨ad, y, sv, hv, hf, h2, hy⟩ := vLoad_sound h1 H hda
          obtain ⟨tm2, h3, hD2⟩ := putS_den h2 hD1 hy
          refine wpAnyT_mono (T := TM (EE P ops) ((deps, fun w' => Finds (sizeO P t) w' ad y) :: MS)) (fun l j w' hT m hm => hT m (List.mem_cons_of_mem _ hm)) _ _ _ _ ?_
          refine wpAnyT_first (T := TM (EE P ops) ((deps, fun w' => Finds (sizeO P t) w' ad y) :: MS)) (S := fun w' => Finds (sizeO P t) w' ad y) hoi (fun j o cs b ho => Region.noSelect_spec hs j o cs b ho) (fun c a w h => (hQ _ _ _ h).elim) hcl (fun l j hl hj w' hT => hT (deps, fun w' => Finds (sizeO P t) w' ad y) List.mem_cons_self hl hj) hEi (fun _ _ _ h => TM.back hEi h) f listed a w hun hiD hfree hr
            (.inl ⟨hw, fun w' hS => load_ok ho hu hi hv hS⟩) hf (ih.1 f _ hok.2 _ _ tm2 hp M hk h3 ρ F w _ H hD2 ⟨⟨rfl, fun w' hk => hf.keeps hk, hp.length, Nat.le_refl _, ?_⟩, hMs.listed i⟩ (put_defers hd) hfin)
          intro ρ' hp' M' F' w' K' hx H' hl
          have hle := H.le hx
          obtain ⟨ad', y', sv', hv', hf', h4, hy'⟩ := vLoad_sound hl H' (hda.mono hle)
          rw [hv] at hv'
          cases hv'
          obtain ⟨h5, rfl⟩ := rig_spec hle _ _ _ h4 _ _ hy hy'
          exact ⟨h5, fun w'' hk => hf'.keeps hk⟩
        · split at h1
          · rename_i hpu
            obtain ⟨v, sv, hrun, h2, hv⟩ := vcPure_sound hG H hD1 (o := oi) hpu h1
            obtain ⟨tm2, h3, hD2⟩ := putS_den h2 hD1 hv
            exact pure v tm2 (.inl ⟨hw, fun w _ => hrun w⟩) hD2 h3
          · exact h1.elim
      · obtain ⟨tm2, h3, hD2⟩ := putS_den h1 hD1 (show Den ρ (.v undef) undef from rfl)
        exact pure undef tm2 (.inr ⟨hw, rfl⟩) hD2 h3
  | eff q i r ih =>
    have B : ∀ (fuel : Nat) (listed : Array Bool), dtOK .any ops (.eff q i r) false (fuel + 1) listed = true → ∀ marks MS tm hp M, k0 ≤ hp.length → vDT Γ (ops.toList.map (cpo P ops)) (.eff q i r) marks tm hp M K →
      ∀ ρ F w a, Holds ρ hp M F w → DenL ρ tm a.tmps.toList → MksOK (EE P ops) listed hp.length ρ w marks MS → a.defers = d0 → Fin d0 Q K k0 ρ M F w →
      ∀ j ∈ (DT.eff q i r).heads, wpOp P ops Q j (fun a' w' => (w' = w ∨ TM (EE P ops) MS listed j w') ∧ wpAnyT P .any ops Q (TM (EE P ops) MS) fuel (listed.setIfInBounds j true) a' w') a w := by
      intro fuel listed hok marks MS tm hp M hk h ρ F w a H hD hMs hd hfin j hj
      have hj : j = i := by simpa [DT.heads] using hj
      subst hj
      simp only [dtOK, Bool.not_false, Bool.true_or, Bool.true_and, Bool.and_eq_true, decide_eq_true_eq] at hok
      obtain ⟨oi, hoi⟩ : ∃ oi, ops[j]? = some oi := ⟨_, Array.getElem?_eq_getElem hok.1⟩
      change dEff Γ _ q j r (vDT Γ _ r) marks tm hp M K at h
      unfold dEff at h
      rw [hgt j oi hoi] at h
      dsimp only at h
      obtain ⟨tm1, hD1, hor⟩ := gate_spec (o := oi) (ops := ops) h hD (hgd j oi hoi)
      unfold wpOp
      simp only [hoi]
      rcases hor with ⟨hw, h1⟩ | ⟨hw, h1⟩
      · rw [if_pos hw]
        left
        split at h1
        · rename_i s x hop
          obtain ⟨t, x0, ho, hu, hi, rfl, rfl⟩ := cop_load (show cop P oi = _ from hop)
          rw [force_eq] at h1
          obtain ⟨ad, y, sv, hv, hf, h2, hy⟩ := vLoad_sound h1 H (ev_den hD1 x0)
          obtain ⟨tm2, h3, hD2⟩ := putS_den h2 hD1 hy
          exact OpWp.of_value (R := fun v w' => v = y ∧ w' = w) (load_ok ho hu hi hv hf) ⟨rfl, rfl⟩ _ _ (by
            rintro v w' ⟨rfl, rfl⟩
            exact ⟨.inl rfl, ih.1 fuel _ hok.2 marks MS tm2 hp M hk h3 ρ F _ _ H hD2 (hMs.listed j) (put_defers hd) hfin⟩)
        rename_i hop
        split at h1
        · rename_i hpu
          obtain ⟨v, sv, hrun, h2, hv⟩ := vcPure_sound hG H hD1 (o := oi) hpu h1
          obtain ⟨tm2, h3, hD2⟩ := putS_den h2 hD1 hv
          exact OpWp.of_value (R := fun v' w' => v' = v ∧ w' = w) (hrun w) ⟨rfl, rfl⟩ _ _ (by
            rintro v' w' ⟨rfl, rfl⟩
            exact ⟨.inl rfl, ih.1 fuel _ hok.2 marks MS tm2 hp M hk h3 ρ F _ _ H hD2 (hMs.listed j) (put_defers hd) hfin⟩)
        rename_i hpu
        have hEj : EE P ops j = true := by
          unfold EE
          rw [hoi]
          show isE (cpo P ops oi).op = true
          unfold isE
          split
          · rename_i hh; exact absurd hh (hop _ _)
          · rw [hpu]; rfl
        cases q with
        | true =>
          dsimp only at h1
          split at h1
          · rename_i hbs
            obtain ⟨e0, ck0, n0, z0, ps0, hb0⟩ : ∃ e ck n z ps, cop P oi = .bslice e ck n z ps := by
              unfold isBs at hbs
              split at hbs
              · rename_i hb0; exact ⟨_, _, _, _, _, hb0⟩
              · cases hbs
            obtain ⟨t1, n1, ps1, ho1⟩ := cop_bslice (P := P) H hD1 hb0
            refine s_bslice2 H hD1 ho1 h1 _ _ fun v w' hpost => ?_
            obtain ⟨⟨sv, ρ', hp', M', F', h3, hl, he, H', hF, hS, hv⟩, ob, hw'⟩ := hpost
            have hkp : Keeps w w' := by subst hw'; exact heap_alloc_keeps w ob
            have hle := H.le he
            obtain ⟨tm2, h5, hD2⟩ := putS_den h3 (hD1.mono hle) hv
            obtain ⟨hM2, hT⟩ := marksQ_spec j hkp he hl hMs
            exact ⟨.inr hT, ih.1 fuel _ hok.2 marks MS tm2 hp' M' (by omega) h5 ρ' F' w' _ H' hD2 hM2 (put_defers hd) (hfin.step (he.mono hk) hF hS)⟩
          have h2 := h1 (heapL w) (fun b o h => H.frm _ _ (H.sub _ _ h))
          rw [roL_eq] at h2
          refine vcOp_sound hG H.quiet hD1 (o := oi) h2 _ _ fun v w' hpost => ?_
          obtain ⟨sv, ρ', hp', M', F', h3, hl, he, H', hF, hS, hv⟩ := hpost
          rw [List.length_map] at hl he
          rw [llen_eq, dropN_eq] at h3
          split at h3
          case h_2 => exact h3.elim
          rename_i hnew
          rw [eapp_eq] at h3
          obtain ⟨H2, hkp⟩ := H.unquiet hl he H' hF.fr hnew
          have hle := H.le he
          obtain ⟨tm2, h4, hD2⟩ := putS_den h3 (hD1.mono hle) hv
          have hlen : hp.length ≤ (hp ++ hp'.drop hp.length).length := by simp
          obtain ⟨hM2, hT⟩ := marksQ_spec j hkp he hlen hMs
          exact ⟨.inr hT, ih.1 fuel _ hok.2 marks MS tm2 _ M (by omega) h4 ρ' F w' _ H2 hD2 hM2 (put_defers hd) (hfin.step (he.mono hk) (Gr.refl M F) hS)⟩
        | false =>
          dsimp only at h1
          refine vcOp_sound hG H hD1 (o := oi) h1 _ _ fun v w' hpost => ?_
          obtain ⟨sv, ρ', hp', M', F', h3, hl, he, H', hF, hS, hv⟩ := hpost
          have hle := H.le he
          obtain ⟨marks', h4, hM2, hT⟩ := vMarks_spec hEj he H' hl h3 hMs
          obtain ⟨tm2, h5, hD2⟩ := putS_den h4 (hD1.mono hle) hv
          exact ⟨.inr hT, ih.1 fuel _ hok.2 marks' MS tm2 hp' M' (by omega) h5 ρ' F' w' _ H' hD2 hM2 (put_defers hd) (hfin.step (he.mono hk) hF hS)⟩
      · rw [if_neg (by rw [hw]; simp)]
        obtain ⟨tm2, h3, hD2⟩ := putS_den h1 hD1 (show Den ρ (.v undef) undef from rfl)
        exact ⟨.inl trivial, ih.1 fuel _ hok.2 marks MS tm2 hp M hk h3 ρ F w _ H hD2 (hMs.listed j) (put_defers hd) hfin⟩
    refine ⟨fun fuel listed hok marks MS tm hp M hk h ρ F w a H hD hMs hd hfin => ?_, B⟩
    cases fuel with
    | zero => simp [dtOK] at hok
    | succ f =>
      have hok' : dtOK .any ops (.eff q i r) false (f + 1) listed = true := by
        simp only [dtOK, Bool.not_false, Bool.true_or, Bool.true_and, Bool.and_eq_true] at hok ⊢
        exact ⟨hok.1.2, hok.2⟩
      simp only [dtOK, Bool.not_true, Bool.false_or, Bool.and_eq_true] at hok
      obtain ⟨hne, hall⟩ := coversB_spec hok.1.1
      exact ⟨fun h0 => absurd h0 hne, fun j hj => B f listed hok' marks MS tm hp M hk h ρ F w a H hD hMs hd hfin j (hall j hj)⟩
  | both x y ihx ihy =>
    have B : ∀ (fuel : Nat) (listed : Array Bool), dtOK .any ops (.both x y) false (fuel + 1) listed = true → ∀ marks MS tm hp M, k0 ≤ hp.length → vDT Γ (ops.toList.map (cpo P ops)) (.both x y) marks tm hp M K →
      ∀ ρ F w a, Holds ρ hp M F w → DenL ρ tm a.tmps.toList → MksOK (EE P ops) listed hp.length ρ w marks MS → a.defers = d0 → Fin d0 Q K k0 ρ M F w →
      ∀ j ∈ (DT.both x y).heads, wpOp P ops Q j (fun a' w' => (w' = w ∨ TM (EE P ops) MS listed j w') ∧ wpAnyT P .any ops Q (TM (EE P ops) MS) fuel (listed.setIfInBounds j true) a' w') a w := by
      intro fuel listed hok marks MS tm hp M hk h ρ F w a H hD hMs hd hfin j hj
      change _ ∧ _ at h
      simp only [dtOK, Bool.not_false, Bool.true_or, Bool.true_and, Bool.and_eq_true] at hok
      rcases List.mem_append.1 (show j ∈ x.heads ++ y.heads from hj) with hj | hj
      · exact ihx.2 fuel listed hok.1 marks MS tm hp M hk h.1 ρ F w a H hD hMs hd hfin j hj
      · exact ihy.2 fuel listed hok.2 marks MS tm hp M hk h.2 ρ F w a H hD hMs hd hfin j hj
    refine ⟨fun fuel listed hok marks MS tm hp M hk h ρ F w a H hD hMs hd hfin => ?_, B⟩
    cases fuel with
    | zero => simp [dtOK] at hok
    | succ f =>
      have hok' : dtOK .any ops (.both x y) false (f + 1) listed = true := by
        simp only [dtOK, Bool.not_false, Bool.true_or, Bool.true_and, Bool.and_eq_true] at hok ⊢
        exact ⟨hok.1.2, hok.2⟩
      simp only [dtOK, Bool.not_true, Bool.false_or, Bool.and_eq_true] at hok
      obtain ⟨hne, hall⟩ := coversB_spec hok.1.1
      exact ⟨fun h0 => absurd h0 hne, fun j hj => B f listed hok' marks MS tm hp M hk h ρ F w a H hD hMs hd hfin j (hall j hj)⟩
end
end Go.Vc
