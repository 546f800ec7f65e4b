/-
  Symbolic execution, part N: code is sound.
-/
import Derived.Test.YthomcgclkbmnkaaDoorVcn2
namespace Go.Vc
theorem eget_get : ∀ {l : List Ent} {n : Nat} {e : Ent}, l[n]? = some e → eget l n = e
  | [], _, _, h => by simp at h
  | _ :: _, 0, _, h => by simp at h; simp [eget, h]
  | _ :: r, n + 1, _, h => by simp only [eget]; exact eget_get (l := r) (by simpa using h)

def updH (F : HL) (l : Nat) (o : Obj) : HL := fun k => if k = l then some o else F k
theorem updH_same (F : HL) (l : Nat) (o : Obj) : updH F l o l = some o := by simp [updH]
theorem updH_ne (F : HL) {l k : Nat} (o : Obj) (h : k ≠ l) : updH F l o k = F k := by simp [updH, h]
theorem Holds.upd {ρ : Nat → Loc} {hp : List Ent} {M F : HL} {w : World} (H : Holds ρ hp M F w) {l : Nat} {o : Obj} (hl : F l = some o) (hM : M l = none) (o' : Obj) : Holds ρ hp M (updH F l o') (w.putObj l o') := by
  have hlt : l < w.heap.size := (Array.getElem?_eq_some_iff.1 (H.frm l o hl)).1
  refine H.put (fun m hm => by rw [H.out m l hm] at hl; cases hl) (fun k o2 hk => ?_) (fun k o2 hk => ?_) fun m b hb => ?_
  · by_cases e : k = l
    · subst e; rw [updH_same] at hk; rw [← hk]; exact World.putObj_heap_same hlt
    · rw [updH_ne _ _ e] at hk; rw [World.putObj_heap_other e]; exact H.frm k o2 hk
  · rw [updH_ne _ _ (fun e => by rw [e, hM] at hk; cases hk)]; exact H.sub k o2 hk
  · rw [updH_ne _ _ (fun e => by rw [← e, H.out m b hb] at hl; cases hl)]; exact H.out m b hb
theorem Gr.upd {M F M1 F1 : HL} (h : Gr M F M1 F1) {l : Nat} (hF : F l = none) (o' : Obj) : Gr M F M1 (updH F1 l o') :=
  ⟨fun k o hk => by rw [updH_ne _ _ (fun e => by rw [e, hF] at hk; cases hk)]; exact h.fr k o hk, h.kn, h.n⟩
theorem Gr.none {M F M1 F1 : HL} (h : Gr M F M1 F1) {l : Nat} {o : Obj} (hM : M l = none) (hF : F l = some o) : M1 l = none := by
  cases hm : M1 l with
  | none => rfl
  | some o2 =>
    rcases h.n l o2 hm with h1 | h1
    · rw [hM] at h1; cases h1
    · rw [hF] at h1; cases h1
theorem Same.put {w w' : World} (h : Same w w') (l : Nat) (o : Obj) : Same w (w'.putObj l o) :=
  ⟨h.os, h.tape, h.output, by show w.heap.size ≤ (w'.heap.setIfInBounds l o).size; simpa using h.size⟩

theorem range_sound {P : Program} {Γ : Nat → Option Trans} {pl : Nat → DT} (hB : ∀ g s, lookB g (bkOf (pl 999999)) = some s → IsBack P g s) {f : Operand} {ps : Array Tmp} {x y : Code} (ihx : Sound P Γ pl x) (ihy : Sound P Γ pl y)
    (gx : guardsAll pl x = true) (gy : guardsAll pl y = true) (nx : noRange x = true) (ny : noRange y = true) (n k0 : Nat) {tm : List SV} {hp : List Ent} {M : HL} {K : Ex → List SV → List Ent → HL → Prop} (hk : k0 ≤ hp.length)
    (h : vc Γ k0 (ccode P pl (.rangeFunc f ps x y)) tm hp M K) {ρ : Nat → Loc} {F : HL} {w : World} {a : Act} (H : Holds ρ hp M F w) (hD : DenL ρ tm a.tmps.toList) :
    (Code.rangeFunc f ps x y).wpIn (Wd none) n P (CPost K k0 ρ M F w a.defers) a w := by
  change vRange k0 (carg f) (bkOf (pl 999999)) ps.toList (ccode P pl x) (ccode P pl y) (fun k => vc Γ k (ccode P pl x)) (fun k => vc Γ k (ccode P pl y)) tm hp M K at h
  unfold vRange at h
  split at h
  case h_2 => exact h.elim
  rename_i g nb he
  split at h
  case h_2 => exact h.elim
  rename_i sz hlook
  have hI := hB g sz hlook
  obtain ⟨I, eb, nn, wd, i, len, ow, et, ck, rows, p1, p2, hbox, hrow, hnk, hps, rfl, hlen, ⟨m0, tmS, hpS, hwk⟩, hround, hend⟩ := h
  have hfd := ev_den hD f
  rw [he] at hfd
  simp only [Den] at hfd
  obtain ⟨x1, z1, hfv, hx1, hz1⟩ := hfd
  have hx0 : x1 = [] := by cases x1 with | nil => rfl | cons _ _ => simp [DenL] at hx1
  subst hx0
  match z1, hz1 with
  | [], hz1 => simp [DenL] at hz1
  | _ :: _ :: _, hz1 => simp [DenL] at hz1
  | [pv], hz1 =>
  simp only [DenL, Den, and_true] at hz1
  obtain ⟨bb, base, cap, hρb, hpv⟩ := hz1
  obtain ⟨bb', cap', cs, hρb', hheapb, hcs⟩ := H.ent nb _ hbox
  rw [hρb] at hρb'
  obtain ⟨rfl, rfl, rfl⟩ : bb = bb' ∧ base = 0 ∧ cap = cap' := by simpa using hρb'
  obtain ⟨v0, hcs0, hd0⟩ : ∃ v0, cs.toList = [v0] ∧ Den ρ (.slc nn (sz.getD 1) i len) v0 := by
    match hc : cs.toList, hcs with
    | [], hcs => simp [DenL] at hcs
    | _ :: _ :: _, hcs => simp [DenL] at hcs
    | [v0], hcs => simp only [DenL, and_true] at hcs; exact ⟨v0, rfl, hcs⟩
  have hpv' : pv = .pointer (some ⟨bb, 0, none⟩) := by rw [hpv]
  subst hpv'
  obtain ⟨D, hDd⟩ : ∃ D, D = w.heap.size := ⟨_, rfl⟩
  obtain ⟨l, hl⟩ : ∃ l, l = D + 1 := ⟨_, rfl⟩
  have hbown : owns ρ hp nb bb := ⟨_, 0, cap, hbox, rfl, hρb⟩
  have hbl : bb < D := by rw [hDd]; exact owns_lt H hbown
  have hFb : F bb = none := H.out nb bb hbown
  have hFD : ∀ k, D ≤ k → F k = none := fun k hk => by
    cases hf : F k with
    | none => rfl
    | some o => have := (Array.getElem?_eq_some_iff.1 (H.frm k o hf)).1; omega
  have hMn : ∀ k, F k = none → M k = none := fun k hk => by
    cases hm : M k with
    | none => rfl
    | some o => rw [H.sub k o hm] at hk; cases hk
  refine wpIn_rangeFunc ?_
  intro fn hfn
  obtain ⟨rec, hrec⟩ : ∃ rec : LoopState → Option Code → Loop, rec = fun st pe => { state := st, pending := pe, fn, tmps := a.tmps, params := ps, assign := x, body := y, defers := w.heap.size } := ⟨_, rfl⟩
  obtain ⟨W1, hW1⟩ : ∃ W1, (w.alloc (.deferred (some []))).alloc (.loop (rec .ready none)) = W1 := ⟨_, rfl⟩
  have hW1h : W1.heap = (w.heap.push (.deferred (some []))).push (.loop (rec .ready none)) := by rw [← hW1]; rfl
  have hlo : ∀ k, k < D → W1.heap[k]? = w.heap[k]? := fun k hk => by
    rw [hW1h, Array.getElem?_push_lt (by simp; omega), Array.getElem_push_lt (by omega), Array.getElem?_eq_getElem (by omega)]
  have hWD : W1.heap[D]? = some (.deferred (some [])) := by
    rw [hW1h, Array.getElem?_push_lt (by simp; omega)]
    simp [hDd]
  have hWl : W1.heap[l]? = some (.loop (rec .ready none)) := by
    rw [hW1h, hl, hDd, show w.heap.size + 1 = (w.heap.push (Obj.deferred (some []))).size by simp]; exact Array.getElem?_push_size
  have hS1 : Same w W1 := ⟨by rw [← hW1]; rfl, by rw [← hW1]; rfl, by rw [← hW1]; rfl, by rw [hW1h]; simp; omega⟩
  let Fs : HL := fun k => if k = bb then some (.cells cs eb (0, 0)) else if k = D then some (.deferred (some [])) else F k
  have hFs : FLe F Fs := fun k o hk => by
    show (if k = bb then _ else if k = D then _ else F k) = _
    rw [if_neg (fun e => by rw [e, hFb] at hk; cases hk), if_neg (fun e => by rw [e, hFD D (Nat.le_refl _)] at hk; cases hk)]
    exact hk
  have hFsb : Fs bb = some (.cells cs eb (0, 0)) := by show (if bb = bb then _ else _) = _; rw [if_pos rfl]
  have hFsD : Fs D = some (.deferred (some [])) := by show (if D = bb then _ else if D = D then _ else _) = _; rw [if_neg (by omega), if_pos rfl]
  have hFsl : Fs l = none := by show (if l = bb then _ else if l = D then _ else F l) = _; rw [if_neg (by omega), if_neg (by omega)]; exact hFD l (by omega)
  have hGs : Gr M F M Fs := ⟨hFs, FLe.refl M, fun _ _ h => .inl h⟩
  have H1 : Holds ρ (hp.set nb .gone) M (updH Fs l (.loop (rec .ready none))) W1 := by
    have H0 := H.drop nb
    have hob : ∀ m b, owns ρ (hp.set nb .gone) m b → b ≠ bb ∧ b < D ∧ F b = none := fun m b hm => by
      refine ⟨fun e => ?_, by rw [hDd]; exact owns_lt H0 hm, H0.out m b hm⟩
      subst e
      obtain ⟨e1, base1, cap1, q1, q2, q3⟩ := hm
      by_cases hmn : nb = m
      · subst hmn
        rw [List.getElem?_set_self (by have := List.getElem?_eq_some_iff.1 hbox; exact this.1)] at q1
        cases q1; cases q2
      · rw [List.getElem?_set_ne hmn] at q1
        exact hmn (H.sep nb m b hbown ⟨e1, base1, cap1, q1, q2, q3⟩)
    refine ⟨fun m e hme => (H0.ent m e hme).keep (fun _ _ h => h) rfl (FLe.refl M) fun b base cap ho hr => hlo b (hob m b ⟨e, base, cap, hme, ho, hr⟩).2.1, H0.sep, fun m b hm => ?_, fun k o hk => ?_, fun k o hk => ?_, H0.dom⟩
    · obtain ⟨q1, q2, q3⟩ := hob m b hm
      rw [updH_ne _ _ (by omega)]
      show (if b = bb then _ else if b = D then _ else F b) = _
      rw [if_neg q1, if_neg (by omega)]
      exact q3
    · by_cases e : k = l
      · subst e; rw [updH_same] at hk; rw [hWl]; exact hk
      · rw [updH_ne _ _ e] at hk
        replace hk : (if k = bb then some (.cells cs eb (0, 0)) else if k = D then some (.deferred (some [])) else F k) = some o := hk
        by_cases e1 : k = bb
        · rw [if_pos e1] at hk; rw [e1, hlo bb hbl, hheapb]; exact hk
        · rw [if_neg e1] at hk
          by_cases e2 : k = D
          · rw [if_pos e2] at hk; rw [e2, hWD]; exact hk
          · rw [if_neg e2] at hk
            have := H.frm k o hk
            rw [hlo k (by rw [hDd]; exact (Array.getElem?_eq_some_iff.1 this).1)]
            exact this
    · have hf := H.sub k o hk
      rw [updH_ne _ _ (fun e => by rw [e, hFD l (by omega)] at hf; cases hf)]
      exact hFs k o hf
  obtain ⟨hI0, ρS, HS, hDS, hES, hkS⟩ := Wk_spec hwk H1 hD
  have hlM : M l = none := hMn l (hFD l (by omega))
  have hl0 : ∀ {st pe}, (rec st pe).params = ps := by intro st pe; rw [hrec]
  -- what stands between two rounds
  let Base : List SV → (Nat → Loc) → List Ent → HL → HL → World → Prop := fun tm1 ρ1 hp1 M1 F1 W => k0 ≤ hp1.length ∧ Ext k0 ρ ρ1 ∧ Holds ρ1 hp1 M1 F1 W ∧ Gr M Fs M1 F1 ∧ Same w W ∧ DenL ρ1 tm1 a.tmps.toList ∧ M1 l = none
  let J : Nat → World → Prop := fun k W => ∃ tm1 ρ1 hp1 M1 F1, I k tm1 hp1 M1 ∧ F1 l = some (.loop (rec .ready none)) ∧ Base tm1 ρ1 hp1 M1 F1 W
  let Jx : World → Prop := fun W => ∃ (c : Code) (ex : Ex) (tm1 : List SV) (ρ1 : Nat → Loc) (hp1 : List Ent) (M1 F1 : HL), ((c = .ret ∧ ex = .ret) ∨ ∃ id, c = .exit id ∧ ex = .exit id) ∧ K ex tm1 hp1 M1 ∧ F1 l = some (.loop (rec .done (some c))) ∧ Base tm1 ρ1 hp1 M1 F1 W
  have hJ0 : J len W1 := ⟨tmS, ρS, hpS, M, _, hI0, updH_same .., hkS, hES, HS, (Gr.refl M Fs).upd hFsl _, hS1, hDS, hlM⟩
  have hboxW : ∀ {M1 F1 : HL} {ρ1 hp1 W}, Holds ρ1 hp1 M1 F1 W → Gr M Fs M1 F1 → W.cell? ⟨bb, 0, none⟩ = some v0 := fun {M1 F1 ρ1 hp1 W} HH G => by
    have := HH.frm bb _ (G.fr bb _ hFsb)
    have hc0 : cs[0]? = some v0 := by rw [← Array.getElem?_toList, hcs0]; rfl
    simp [World.cell?, this, hc0]
  have hDen0 : ∀ {ρ1}, Ext k0 ρ ρ1 → Den ρ1 (.slc nn (sz.getD 1) i len) v0 := fun {ρ1} hx => by
    simp only [Den] at hd0 ⊢
    obtain ⟨a1, c1, q1, q2, q3⟩ := hd0
    exact ⟨a1, c1, q1, q2, q3.imp id fun ⟨b, base, cap, q4, q5⟩ => ⟨b, base, cap, (hx nn hnk).trans q4, q5⟩⟩
  have hpsz : ps = #[p1, p2] := by apply Array.ext'; rw [hps]
  refine ⟨l, [coll D], W1, { target := .fn (.func g) #[.pointer (some ⟨bb, 0, none⟩)], args := #[.func (.yield l) #[] #[]] }, W1, g, #[.func (.yield l) #[] #[], .pointer (some ⟨bb, 0, none⟩)], W1, ?_, ?_, ?_, ?_, (fun hh => by cases hh), ?_⟩
  · rw [← hW1, hrec, hl, hDd]; exact run_enterLoop_outer _ _ _ _ _
  · simp only [resolve, hfv]
    simp [go_sem]
  · intro _ _; trivial
  · obtain ⟨fn1, c1, pl1, q1, q2, q3, _⟩ := hI
    have hb : fn1.body.isNone = false := by rw [q2]; rfl
    have hcf : ∀ z, (callFunc g z).run P W1 = .ok (.enter g z) W1 := by
      intro z
      simp only [callFunc, Sem.run_bind, run_program, Result.andThen_ok, q1, q3, hb, Bool.false_eq_true, if_false]
      rfl
    simp [invoke, hcf]
  · refine (back_calls hI (n := n - 1) (nn := nn) (i := i) (len := len) hlen (J := J) (Jx := Jx) ?_ ?_ hJ0).mono ?_
    · rintro W ⟨c, ex, tm1, ρ1, hp1, M1, F1, _, _, _, _, _, HH, _⟩
      exact ⟨ρ1, hp1, M1, F1, HH⟩
    · rintro k W ⟨tm1, ρ1, hp1, M1, F1, hIk, hF1, hk1, hE1, HH, hG1, hSW, hD1, hM1⟩
      refine ⟨ρ1, hp1, M1, F1, v0, HH, hboxW HH hG1, hDen0 hE1, ?_⟩
      rintro k' rfl hk'
      obtain ⟨hr1, hload⟩ := hround k' hk' tm1 hp1 M1 hIk
      refine ⟨by rw [eget_get hr1]; rfl, _, hload, fun sv yv hKK hden => ?_⟩
      simp only [sset_iff] at hKK
      have hWlr := HH.frm l _ hF1
      have hyl := run_yield (P := P) (args := #[.int .i64 k', yv]) hWlr (by rw [hl0, hpsz]; rfl)
      rw [hl0] at hyl
      refine ⟨_, _, _, _, hyl, roundIn_of_wpIn (show (Wd none).fn _ from trivial) ?_⟩
      have hxa : (rec .ready none).assign = x := by rw [hrec]
      have hyb : (rec .ready none).body = y := by rw [hrec]
      have hta : (rec .ready none).tmps = a.tmps := by rw [hrec]
      rw [hxa, hyb, hta, hpsz]
      have hD3 : DenL ρ1 ((tm1.set p1 (.v (.int .i64 k'))).set p2 sv) (((#[p1, p2].zip #[Value.int .i64 k', yv]).foldl (fun t (p, v) => t.setIfInBounds p v) a.tmps).toList) := by
        have q1 := (hD1.set (show Den ρ1 (.v (.int .i64 k')) (.int .i64 k') from rfl) p1).set hden p2
        simpa using q1
      have hw := ihx (some l) (n - 1 - 1) (llen hp1) _ hp1 M1 _ (.inr nx) gx (by rw [llen_eq]; exact Nat.le_refl _) hKK ρ1 F1 W { tmps := (#[p1, p2].zip #[Value.int .i64 k', yv]).foldl (fun t (p, v) => t.setIfInBounds p v) a.tmps, defers := [] } HH hD3
      refine wpIn_mono hw fun e a2 W2 hc => ?_
      obtain ⟨ex, tm4, ρ4, hp4, M4, F4, e1, e2, e3, e4, e5, e6, e7, e8, _⟩ := hc
      cases ex with
      | exit id => exact e2.elim
      | ret => exact e2.elim
      | normal =>
      subst e1
      have hM4 : M4 l = none := e6.none hM1 hF1
      have hF4 := e6.fr l _ hF1
      have hG4 : Gr M Fs M4 F4 := hG1.trans e6
      refine ⟨W2.putObj l (.loop (rec .busy none)), ?_, ?_⟩
      · have := run_beginRound (P := P) (e5.frm l _ hF4) (by rw [hrec])
        rw [this, hrec]
      have H4 := e5.upd hF4 hM4 (.loop (rec .busy none))
      have hw2 := ihy (some l) (n - 1 - 1) (llen hp1) tm4 hp4 M4 _ (.inr ny) gy e3 e2 ρ4 _ _ a2 H4 e8
      refine wpIn_mono hw2 fun e a3 W3 hc => ?_
      obtain ⟨ex, tm5, ρ5, hp5, M5, F5, f1, f2, f3, f4, f5, f6, f7, _, _⟩ := hc
      have hF5 : F5 l = some (.loop (rec .busy none)) := f6.fr l _ (updH_same ..)
      have hM5 : M5 l = none := f6.none hM4 (updH_same ..)
      have hG5 : Gr M Fs M5 F5 := (hG4.upd hFsl _).trans f6
      have hx5 : Ext (llen hp1) ρ1 ρ5 := e4.trans f4
      rw [llen_eq] at hx5 f3
      have hD5 : DenL ρ5 tm1 a.tmps.toList := hD1.mono (HH.le hx5)
      have hE5 : Ext k0 ρ ρ5 := hE1.trans (hx5.mono hk1)
      have hS5 : Same w W3 := (hSW.trans (e7.put l _)).trans f7
      have hend5 : ∀ (jump : Option Code), (Instr.endRound l jump).run P W3 = .ok (.bool jump.isNone) (W3.putObj l (.loop (rec (if jump.isNone then .ready else .done) jump))) := fun jump => by
        have := run_endRound (P := P) jump (f5.frm l _ hF5)
        rw [this, hrec]
      cases ex with
      | normal =>
        subst f1
        obtain ⟨m6, tm6, hp6, hwk6⟩ := f2
        obtain ⟨hI6, ρ6, H6, hD6, hE6, hk6⟩ := Wk_spec hwk6 (f5.upd hF5 hM5 (.loop (rec .ready none))) hD5
        exact ⟨_, _, hend5 none, .inl ⟨rfl, tm6, ρ6, hp6, M5, _, hI6, updH_same .., hk6, hE5.trans hE6, H6, hG5.upd hFsl _, hS5.put l _, hD6, hM5⟩⟩
      | ret =>
        subst f1
        exact ⟨_, _, hend5 (some .ret), .inr ⟨rfl, .ret, .ret, tm1, ρ5, hp5, M5, _, .inl ⟨rfl, rfl⟩, f2, updH_same .., by omega, hE5, f5.upd hF5 hM5 _, hG5.upd hFsl _, hS5.put l _, hD5, hM5⟩⟩
      | exit id =>
        subst f1
        exact ⟨_, _, hend5 (some (.exit id)), .inr ⟨rfl, .exit id, .exit id, tm1, ρ5, hp5, M5, _, .inr ⟨id, rfl, rfl⟩, f2, updH_same .., by omega, hE5, f5.upd hF5 hM5 _, hG5.upd hFsl _, hS5.put l _, hD5, hM5⟩⟩
    · rintro e W2 ⟨⟨v, rfl⟩, hfin⟩
      have post : ∀ (ex : Ex) (tm1 : List SV) (ρ1 : Nat → Loc) (hp1 : List Ent) (M1 F1 : HL) (o : Obj) (o' : Obj) (e : Exit), (e = match ex with | .normal => .normal | .exit id => .exit id | .ret => .ret) → K ex tm1 hp1 M1 → F1 l = some o → Base tm1 ρ1 hp1 M1 F1 W2 →
          CPost K k0 ρ M F w a.defers e { a with defers := [coll D] ++ a.defers } (W2.putObj l o') := fun ex tm1 ρ1 hp1 M1 F1 o o' e he hK hF1 hb => by
        obtain ⟨hk1, hE1, HH, hG1, hSW, hD1, hM1⟩ := hb
        refine ⟨ex, tm1, ρ1, hp1, M1, updH F1 l o', he, hK, hk1, hE1, HH.upd hF1 hM1 o', hGs.trans (hG1.upd hFsl o'), hSW.put l o', hD1, [D], rfl, by simp, fun D' hD' => ?_⟩
        obtain rfl : D' = D := by simpa using hD'
        refine ⟨?_, hFD _ (Nat.le_refl _), hG1.none (hMn _ (hFD _ (Nat.le_refl _))) hFsD⟩
        rw [updH_ne _ _ (by omega)]
        exact hG1.fr _ _ hFsD
      rcases hfin with ⟨tm1, ρ1, hp1, M1, F1, hIk, hF1, hb⟩ | ⟨c, ex, tm1, ρ1, hp1, M1, F1, hcx, hKx, hF1, hb⟩
      · have hrun := run_endLoop (P := P) (hb.2.2.1.frm l _ hF1) (by rw [hrec]; simp)
        exact ⟨_, _, hrun, by rw [hrec]; exact post .normal tm1 ρ1 hp1 M1 F1 _ _ _ rfl (hend tm1 hp1 M1 hIk) hF1 hb⟩
      · have hrun := run_endLoop (P := P) (hb.2.2.1.frm l _ hF1) (by rw [hrec]; simp)
        refine ⟨_, _, hrun, ?_⟩
        rw [hrec]
        rcases hcx with ⟨rfl, rfl⟩ | ⟨id, rfl, rfl⟩
        · exact wpIn_ret (post .ret tm1 ρ1 hp1 M1 F1 _ _ _ rfl hKx hF1 hb)
        · exact wpIn_exit (post (.exit id) tm1 ρ1 hp1 M1 F1 _ _ _ rfl hKx hF1 hb)
theorem vc_sound {P : Program} {Γ : Nat → Option Trans} (hG : GOK P Γ) (hm : P.follows .mixedOrders = true) (pl : Nat → DT) (hB : ∀ g s, lookB g (bkOf (pl 999999)) = some s → IsBack P g s) : ∀ (c : Code), Sound P Γ pl c := by
  intro c
  induction c with
  | skip => intro ro n k0 tm hp M K _ _ hk h ρ F w a H hD; exact wpIn_skip ⟨.normal, tm, ρ, hp, M, F, rfl, h, hk, Ext.refl _ _, H, Gr.refl M F, Same.refl w, hD, .refl ..⟩
  | ret => intro ro n k0 tm hp M K _ _ hk h ρ F w a H hD; exact wpIn_ret ⟨.ret, tm, ρ, hp, M, F, rfl, h, hk, Ext.refl _ _, H, Gr.refl M F, Same.refl w, hD, .refl ..⟩
  | exit id => intro ro n k0 tm hp M K _ _ hk h ρ F w a H hD; exact wpIn_exit ⟨.exit id, tm, ρ, hp, M, F, rfl, h, hk, Ext.refl _ _, H, Gr.refl M F, Same.refl w, hD, .refl ..⟩
  | region id ops draw =>
    intro ro n k0 tm hp M K _ hg hk h ρ F w a H hD
    have hreg : ∀ (K : Ex → List SV → List Ent → HL → Prop), vReg Γ draw (ops.toList.map (cpo P ops)) (if draw then (cutOf (pl id)).getD (pl id) else .done) tm hp M K → (Code.region id ops draw).wpIn (Wd ro) n P (CPost K k0 ρ M F w a.defers) a w :=
      fun K h => region_sound hG hm k0 hg hk h H hD
    cases hc : cutOf (pl id) with
    | none =>
      have e : ccode P pl (.region id ops draw) = .ops draw (ops.toList.map (cpo P ops)) (if draw then pl id else .done) := by simp only [ccode, hc]
      rw [e] at h
      rw [hc] at hreg
      exact hreg K h
    | some r =>
      have e : ccode P pl (.region id ops draw) = .cut (.ops draw (ops.toList.map (cpo P ops)) (if draw then r else .done)) := by simp only [ccode, hc]
      rw [e] at h
      rw [hc] at hreg
      change vCut k0 .skip (vReg Γ draw (ops.toList.map (cpo P ops)) (if draw then r else .done)) tm hp M K at h
      obtain ⟨I, h1, h2⟩ := h
      refine wpIn_mono (hreg _ h1) fun e a' w' hc => ?_
      obtain ⟨ex, tm', ρ', hp', M', F', e1, e2, e3, e4, e5, e6, e7, e8, e9⟩ := hc
      cases ex with
      | normal =>
        subst e1
        obtain ⟨m, tm3, hp3, hwk⟩ := e2
        obtain ⟨hI, ρ3, H3, hD3, hE3, hk3⟩ := Wk_spec hwk e5 e8
        exact ⟨.normal, tm3, ρ3, hp3, M', F', rfl, h2 _ _ _ hI, hk3, e4.trans hE3, H3, e6, e7, hD3, e9⟩
      | exit id => subst e1; exact ⟨.exit id, tm', ρ', hp', M', F', rfl, e2, e3, e4, e5, e6, e7, e8, e9⟩
      | ret => subst e1; exact ⟨.ret, tm', ρ', hp', M', F', rfl, e2, e3, e4, e5, e6, e7, e8, e9⟩
  | seq x y ihx ihy =>
    intro ro n k0 tm hp M K hr hg hk h ρ F w a H hD
    simp only [guardsAll, Bool.and_eq_true] at hg
    have hrx : ro = none ∨ noRange x = true := hr.imp id fun h => by simp only [noRange, Bool.and_eq_true] at h; exact h.1
    have hry : ro = none ∨ noRange y = true := hr.imp id fun h => by simp only [noRange, Bool.and_eq_true] at h; exact h.2
    change vSeq (ccode P pl x) (ccode P pl y) (vc Γ k0 (ccode P pl x)) (vc Γ k0 (ccode P pl y)) tm hp M K at h
    unfold vSeq at h
    refine wpIn_seq (wpIn_mono (ihx ro n k0 tm hp M _ hrx hg.1 hk h ρ F w a H hD) fun e a' w' hc => ?_)
    obtain ⟨ex, tm', ρ', hp', M', F', e1, e2, e3, e4, e5, e6, e7, e8, e9⟩ := hc
    cases ex with
    | normal =>
      subst e1
      refine wpIn_mono (ihy ro n k0 tm' hp' M' K hry hg.2 e3 e2 ρ' F' w' a' e5 e8) fun e a2 w2 hc => ?_
      obtain ⟨ex, tm2, ρ2, hp2, M2, F2, f1, f2, f3, f4, f5, f6, f7, f8, f9⟩ := hc
      exact ⟨ex, tm2, ρ2, hp2, M2, F2, f1, f2, f3, e4.trans f4, f5, e6.trans f6, e7.trans f7, f8, e9.trans f9 e6.fr f6⟩
    | exit id => subst e1; exact ⟨.exit id, tm', ρ', hp', M', F', rfl, e2, e3, e4, e5, e6, e7, e8, e9⟩
    | ret => subst e1; exact ⟨.ret, tm', ρ', hp', M', F', rfl, e2, e3, e4, e5, e6, e7, e8, e9⟩
  | cond c x y ihx ihy =>
    intro ro n k0 tm hp M K hr hg hk h ρ F w a H hD
    simp only [guardsAll, Bool.and_eq_true] at hg
    have hrx : ro = none ∨ noRange x = true := hr.imp id fun h => by simp only [noRange, Bool.and_eq_true] at h; exact h.1
    have hry : ro = none ∨ noRange y = true := hr.imp id fun h => by simp only [noRange, Bool.and_eq_true] at h; exact h.2
    change vCond (carg c) (ccode P pl x) (ccode P pl y) (vc Γ k0 (ccode P pl x)) (vc Γ k0 (ccode P pl y)) tm hp M K at h
    unfold vCond at h
    have hc := ev_den hD c
    split at h
    · rename_i t he
      rw [he] at hc
      simp only [Den] at hc
      cases t with
      | true => exact wpIn_cond_true hc.symm (ihx ro n k0 tm hp M K hrx hg.1 hk (h.t rfl) ρ F w a H hD)
      | false => exact wpIn_cond_false hc.symm (ihy ro n k0 tm hp M K hry hg.2 hk (h.f rfl) ρ F w a H hD)
    · exact h.elim
  | block id c ih =>
    intro ro n k0 tm hp M K hr hg hk h ρ F w a H hD
    change vBlock id (ccode P pl c) (vc Γ k0 (ccode P pl c)) tm hp M K at h
    unfold vBlock at h
    refine wpIn_block (wpIn_mono (ih ro n k0 tm hp M _ hr hg hk h ρ F w a H hD) fun e a' w' hc => ?_)
    obtain ⟨ex, tm', ρ', hp', M', F', e1, e2, e3⟩ := hc
    cases ex with
    | normal => subst e1; exact ⟨.normal, tm', ρ', hp', M', F', rfl, e2, e3⟩
    | ret => subst e1; exact ⟨.ret, tm', ρ', hp', M', F', rfl, e2, e3⟩
    | exit j =>
      subst e1
      simp only [Exit.inBlock]
      dsimp only at e2
      split at e2
      · rename_i hj
        have hj := Nat.eq_of_beq_eq_true hj
        rw [if_pos hj]
        exact ⟨.normal, tm', ρ', hp', M', F', rfl, e2, e3⟩
      · rename_i hj
        rw [if_neg (Nat.ne_of_beq_eq_false hj)]
        exact ⟨.exit j, tm', ρ', hp', M', F', rfl, e2, e3⟩
  | loop c ih =>
    intro ro n k0 tm hp M K hr hg hk h ρ F w a H hD
    change vLoop k0 (ccode P pl c) (vc Γ k0 (ccode P pl c)) tm hp M K at h
    unfold vLoop at h
    obtain ⟨I, ⟨i, m, tm1, hp1, hwk⟩, hround⟩ := h
    obtain ⟨hI, ρ1, H1, hD1, hE1, hk1⟩ := Wk_spec hwk H hD
    refine wpIn_loopN (fun i a' w' => ∃ tm' ρ' hp' M' F', I i tm' hp' M' ∧ k0 ≤ hp'.length ∧ Ext k0 ρ ρ' ∧ Holds ρ' hp' M' F' w' ∧ Gr M F M' F' ∧ Same w w' ∧ DenL ρ' tm' a'.tmps.toList ∧ Mrk a.defers F M' F' a'.defers)
      (fun i a' w' hI => ?_) (n := i) ⟨tm1, ρ1, hp1, M, F, hI, hk1, hE1, H1, Gr.refl M F, Same.refl w, hD1, .refl ..⟩
    obtain ⟨tm2, ρ2, hp2, M2, F2, hI, hk2, hE2, H2, hF2, hS2, hD2, hd2⟩ := hI
    refine wpIn_mono (ih ro n k0 tm2 hp2 M2 _ hr hg hk2 (hround i tm2 hp2 M2 hI) ρ2 F2 w' a' H2 hD2) fun e a3 w3 hc => ?_
    obtain ⟨ex, tm3, ρ3, hp3, M3, F3, e1, e2, e3, e4, e5, e6, e7, e8, e9⟩ := hc
    have hd3 := hd2.trans e9 hF2.fr e6
    cases ex with
    | normal =>
      subst e1
      obtain ⟨n', m', tm4, hp4, hlt, hwk'⟩ := e2
      obtain ⟨hI', ρ4, H4, hD4, hE4, hk4⟩ := Wk_spec hwk' e5 e8
      exact ⟨n', hlt, tm4, ρ4, hp4, M3, F3, hI', hk4, (hE2.trans e4).trans hE4, H4, hF2.trans e6, hS2.trans e7, hD4, hd3⟩
    | exit id => subst e1; exact ⟨.exit id, tm3, ρ3, hp3, M3, F3, rfl, e2, e3, hE2.trans e4, e5, hF2.trans e6, hS2.trans e7, e8, hd3⟩
    | ret => subst e1; exact ⟨.ret, tm3, ρ3, hp3, M3, F3, rfl, e2, e3, hE2.trans e4, e5, hF2.trans e6, hS2.trans e7, e8, hd3⟩
  | rangeFunc f ps x y ihx ihy =>
    intro ro n k0 tm hp M K hr hg hk h ρ F w a H hD
    obtain rfl : ro = none := hr.resolve_right (by simp [noRange])
    simp only [guardsAll, Bool.and_eq_true] at hg
    exact range_sound hB ihx ihy hg.1.1.1 hg.1.1.2 hg.1.2 hg.2 n k0 hk h H hD
  | _ => intro ro n k0 tm hp M K _ _ hk h; exact h.elim
end Go.Vc
