/-
  Symbolic execution, part G: the operations that build, slice, append.
-/
import Derived.Test.YthomcgclkbmnkaaDoorVcf
namespace Go.Vc

theorem zipIdx_set (off : Nat) : ∀ (l : List Value) (k : Nat) (cs : Array Value), off + k + l.length ≤ cs.size →
    ((l.zipIdx k).foldl (fun cs (c, j) => cs.setIfInBounds (off + j) c) cs).toList = cs.toList.take (off + k) ++ l ++ cs.toList.drop (off + k + l.length)
  | [], k, cs, _ => by simp
  | x :: l, k, cs, h => by
    simp only [List.zipIdx_cons, List.foldl_cons]
    rw [zipIdx_set off l (k + 1) _ (by simp at h ⊢; omega)]
    simp only [Array.toList_setIfInBounds, List.length_cons]
    have hk : off + k < cs.toList.length := by simp at h ⊢; omega
    have e1 : (cs.toList.set (off + k) x).take (off + (k + 1)) = cs.toList.take (off + k) ++ [x] := by
      apply List.ext_getElem?
      intro j
      rw [List.getElem?_take]
      by_cases hj : j < off + k
      · rw [if_pos (by omega), List.getElem?_set_ne (by omega), List.getElem?_append_left (by simp; omega), List.getElem?_take_of_lt hj]
      · by_cases hj2 : j = off + k
        · subst hj2
          rw [if_pos (by omega), List.getElem?_set_self hk, List.getElem?_append_right (by simp; omega)]
          simp at hk ⊢
          rw [Nat.min_eq_left (by omega)]
          simp
        · rw [if_neg (by omega), List.getElem?_eq_none]
          simp at hk ⊢; omega
    rw [e1, List.drop_set_of_lt (by omega), show off + (k + 1) + l.length = off + k + (l.length + 1) by omega]
    simp

theorem DenL.split {ρ : Nat → Loc} (k : Nat) {s : List SV} {y : List Value} (h : DenL ρ s y) : DenL ρ (s.take k) (y.take k) ∧ DenL ρ (s.drop k) (y.drop k) := ⟨h.take k, h.drop k⟩
theorem rowsOf_spec {ρ : Nat → Loc} (ck : List CK) : ∀ (n : Nat) (l : List SV) (K : List (List Value) → Prop), l.length = n * ck.length → rowsOf ck n l K →
    ∃ rows, K rows ∧ rows.length = n ∧ ∀ us, DenL ρ l us → us = rows.flatten ∧ (∀ (i : Nat) (r : List Value), rows[i]? = some r → r.length = ck.length ∧ ∀ (f : Nat) (k : CK) (x : Value), ck[f]? = some k → r[f]? = some x → k.fits x)
  | 0, l, K, hl, h => ⟨[], h, rfl, fun us hu => by
    have := hu.length
    rw [hl] at this
    exact ⟨List.eq_nil_of_length_eq_zero (by omega), by simp⟩⟩
  | n + 1, l, K, hl, h => by
    simp only [rowsOf, llen_eq, dropN_eq] at h
    rw [takeN_iff] at h
    obtain ⟨hle, h⟩ := h
    obtain ⟨vs, h, hvs, hrig, _, hvl⟩ := valsOf_spec (ρ := ρ) h
    have hl2 : (l.drop ck.length).length = n * ck.length := by rw [List.length_drop, hl, Nat.succ_mul]; omega
    obtain ⟨rows, h1, h2, h3⟩ := rowsOf_spec (ρ := ρ) ck n _ _ hl2 h
    have hvlen : vs.length = ck.length := by
      rw [List.length_take] at hvs; omega
    refine ⟨vs :: rows, h1, by simp [h2], fun us hu => ?_⟩
    obtain ⟨hu1, hu2⟩ := hu.split ck.length
    obtain ⟨e1, hfit⟩ := hrig _ hu1
    obtain ⟨e2, h4⟩ := h3 _ hu2
    refine ⟨?_, ?_⟩
    · rw [List.flatten_cons, ← e2, ← e1, List.take_append_drop]
    · intro i r hr
      cases i with
      | zero => simp at hr; subst hr; exact ⟨hvlen, hfit⟩
      | succ i => exact h4 i r (by simpa using hr)

theorem flatten_get {w : Nat} : ∀ (rows : List (List Value)), (∀ r ∈ rows, r.length = w) → ∀ (i f : Nat) (r : List Value) (x : Value), rows[i]? = some r → r[f]? = some x → f < w → rows.flatten[i * w + f]? = some x
  | [], _, i, f, r, x, hr, _, _ => by simp at hr
  | r0 :: rows, hw, 0, f, r, x, hr, hx, hf => by
    simp at hr
    subst hr
    have := hw r0 (by simp)
    rw [List.flatten_cons, Nat.zero_mul, Nat.zero_add, List.getElem?_append_left (by omega)]
    exact hx
  | r0 :: rows, hw, i + 1, f, r, x, hr, hx, hf => by
    have h0 := hw r0 (by simp)
    rw [List.flatten_cons, List.getElem?_append_right (by rw [Nat.succ_mul]; omega), h0, show (i + 1) * w + f - w = i * w + f by rw [Nat.succ_mul]; omega]
    exact flatten_get rows (fun r hr => hw r (by simp [hr])) i f r x (by simpa using hr) hx hf

theorem denL_vs_eq {ρ : Nat → Loc} : ∀ (vs us : List Value), DenL ρ (vs.map .v) us → us = vs
  | [], [], _ => rfl
  | [], _ :: _, h => by simp [DenL] at h
  | _ :: _, [], h => by simp [DenL] at h
  | x :: r, u :: us, h => by simp only [List.map_cons, DenL, Den] at h; rw [h.1, denL_vs_eq r us h.2]

theorem rowAt_flatten {ck : List CK} {rows : List (List Value)} {cur : Array Value} {base : Nat}
    (hall : ∀ (i : Nat) (r : List Value), rows[i]? = some r → r.length = ck.length ∧ ∀ (f : Nat) (k : CK) (x : Value), ck[f]? = some k → r[f]? = some x → k.fits x)
    (hcur : ∀ j x, rows.flatten[j]? = some x → cur[base + j]? = some x) : RowAt ck cur base rows := by
  intro i r hr
  obtain ⟨h1, h2⟩ := hall i r hr
  refine ⟨h1, fun f k x hk hx => ⟨?_, h2 f k x hk hx⟩⟩
  refine hcur _ _ (flatten_get rows (fun r' hr' => ?_) i f r x hr hx (List.getElem?_eq_some_iff.1 hk).1)
  obtain ⟨j, hj⟩ := List.getElem?_of_mem hr'
  exact (hall j r' hj).1

/-- A new row. -/
theorem Holds.newRow {ρ : Nat → Loc} {hp : List Ent} {M F : HL} {w w' : World} (H : Holds ρ hp M F w) {e : TypeId} {ck : List CK} {rows : List (List Value)} {cur : Array Value} (hh : w'.heap = w.heap.push (.cells cur e (0, 0))) {cap : Nat}
    (hck : 0 < ck.length) (hcap : cap ≤ maxLen) (hsz : cur.size = cap * ck.length) (hlen : rows.length ≤ cap) (hrow : RowAt ck cur 0 rows) :
    Holds (grow ρ hp.length (some (w.heap.size, 0, cap))) (hp ++ [.row true e ck rows]) M F w' := by
  refine H.alloc hh ?_
  simp only [EntOK, grow_self, if_true]
  refine ⟨hck, cur, (0, 0), ⟨?_, by omega, hcap⟩, hlen, hrow⟩
  rw [hh, Array.getElem?_push, if_pos rfl]

section
variable {P : Program} {Γ : Nat → Option Trans} {tm : List SV} {hp : List Ent} {M F : HL} {K : SV → List Ent → HL → Prop} {ρ : Nat → Loc} {w : World} {a : Act}

/-- The parts of a value, laid one after the other. -/
theorem fill_parts (hD : DenL ρ tm a.tmps.toList) (place : Nat → Option (Nat × Nat)) : ∀ (ps : List (Nat × Operand)) (qs : List (Nat × Nat × PArg)) (zs : List SV) (cs : Array Value) (K : List SV → Prop),
    ps.mapM (fun x => (place x.1).map fun (o, s) => (o, s, carg x.2)) = some qs → DenL ρ zs cs.toList → vParts tm qs zs K →
    ∃ l cs', Instr.fill place cs (ps.map fun x => (x.1, a.eval x.2)) = some cs' ∧ K l ∧ DenL ρ l cs'.toList ∧ cs'.size = cs.size
  | [], qs, zs, cs, K, hq, hd, hv => by
    simp at hq
    subst hq
    exact ⟨zs, cs, rfl, hv, hd, rfl⟩
  | (i, x) :: ps, qs, zs, cs, K, hq, hd, hv => by
    simp only [List.mapM_cons, Option.pure_def, Option.bind_eq_bind, Option.bind_eq_some_iff] at hq
    obtain ⟨q, h1, qs', h2, h3⟩ := hq
    cases hpl : place i with
    | none => simp [hpl] at h1
    | some os =>
      obtain ⟨off, size⟩ := os
      simp only [hpl, Option.map_some, Option.some.injEq] at h1
      simp only [Option.some.injEq] at h3
      subst h3
      subst h1
      simp only [vParts] at hv
      obtain ⟨l, hv, hfl⟩ := flat_iff hv
      split at hv
      case h_2 => exact hv.elim
      rename_i hlen hone
      rw [llen_eq] at hlen
      have hlen := Nat.eq_of_beq_eq_true hlen
      rw [overN_iff] at hv
      obtain ⟨hfit, hv⟩ := hv
      obtain ⟨hdl, _⟩ := den_flat (ev_den hD x) hfl hone
      have hl1 := hdl.length
      have hl2 := hd.length
      have hlst := zipIdx_set off (a.eval x).cells.toList 0 cs (by simp at hl1 hl2 ⊢; omega)
      have hcs : (((a.eval x).cells.zipIdx).foldl (fun cs (c, j) => cs.setIfInBounds (off + j) c) cs).toList = cs.toList.take off ++ (a.eval x).cells.toList ++ cs.toList.drop (off + (a.eval x).cells.toList.length) := by
        rw [← Array.foldl_toList, Array.toList_zipIdx]
        simpa using hlst
      have hd' : DenL ρ (zs.take off ++ l ++ zs.drop (off + l.length)) (((a.eval x).cells.zipIdx).foldl (fun cs (c, j) => cs.setIfInBounds (off + j) c) cs).toList := by
        rw [hcs, ← hl1]
        exact ((hd.take off).append hdl).append (hd.drop _)
      obtain ⟨l', cs', h4, h5, h6, h7⟩ := fill_parts hD place ps qs' _ _ K h2 hd' hv
      have hl3 := hd'.length
      refine ⟨l', cs', ?_, h5, h6, ?_⟩
      · simp only [List.map_cons, Instr.fill, hpl]
        rw [if_neg]
        · exact h4
        · simp at hl1 hl2 ⊢
          omega
      · rw [h7]
        simp at hl2 hl3 ⊢
        omega

variable (H : Holds ρ hp M F w) (hD : DenL ρ tm a.tmps.toList)
include H hD

theorem s_build {o : Oper} {t : TypeId} {ps : Array (Nat × Operand)} (ho : o.op = .build t ps) (h : vcOp Γ (cop P o) tm hp M K) : POk P o a ρ fun v => K v hp M := by
  have _ := @H
  simp only [cop, ho] at h
  split at h
  case h_2 => simp [vcOp] at h
  rename_i z l hz hl
  simp only [vcOp] at h
  unfold zeroOf at hz
  obtain ⟨ti, hti, hz'⟩ := Option.bind_eq_some_iff.1 hz
  unfold partsOf at hl
  obtain ⟨pl, hpl, hl⟩ := Option.bind_eq_some_iff.1 hl
  obtain ⟨l', cs', h1, h2, h3, _⟩ := fill_parts hD pl ps.toList l (z.cells.toList.map .v) z.cells _ hl (DenL.vs _) h
  have hpm : (ps.map fun (i, x) => (i, a.eval x)).toList = ps.toList.map fun x => (x.1, a.eval x.2) := by simp
  have hb : P.built t (ps.map fun (i, x) => (i, a.eval x)).toList = some cs' := by
    rw [hpm]
    unfold Program.built
    unfold placesOf at hpl
    split at hpl
    · rename_i fs hu
      obtain ⟨places, hp1, rfl⟩ := Option.map_eq_some_iff.1 hpl
      simp only [hti, hu, hz', hp1]
      exact h1
    · rename_i n e hu
      obtain ⟨ie, hp1, rfl⟩ := Option.map_eq_some_iff.1 hpl
      simp only [hti, hu, hz', hp1]
      exact h1
    · cases hpl
  exact .mk' (v := .agg cs') (fun w => by simp [execOp, ho, run_build w t _ cs' hb]) h2 ⟨cs'.toList, by simp, h3⟩

theorem s_bslice2 {o : Oper} {t : TypeId} {n : Nat} {ps : Array (Nat × Operand)} (ho : o.op = .buildSlice t n ps) (h : vcOp Γ (cop P o) tm hp M K) : OpWp P o a w (fun v w' => Post K hp.length ρ M F w v w' ∧ ∃ ob, w' = w.alloc ob) := by
  simp only [cop, ho] at h
  split at h
  case h_2 => simp [vcOp] at h
  rename_i e hu
  split at h
  case h_2 => simp [vcOp] at h
  rename_i z l hz hl
  split at h
  case isFalse => simp [vcOp] at h
  rename_i hside
  obtain ⟨hz1, hz0, hzc, hz2⟩ := hside
  simp only [vcOp] at h
  unfold zeroOf at hz
  obtain ⟨ti, hti, hz'⟩ := Option.bind_eq_some_iff.1 hz
  have hsz : szOf P e = ti.size := by simp [szOf, hti]
  rw [hsz] at hz1 hz0 hzc hz2 hl
  have hnz : n * ti.size = 0 → n = 0 := fun h0 => by
    rcases Nat.mul_eq_zero.1 h0 with h0 | h0 <;> omega
  rw [hsz] at h
  obtain ⟨l', cs', h1, h2, h3, h4⟩ := fill_parts hD (fun i => some (i * ti.size, ti.size)) ps.toList l _ ((Array.range (n * ti.size)).map (z.cells[· % z.cells.size]!)) _ hl (DenL.vs _) h
  have hcsz : cs'.size = n * ti.size := by rw [h4]; simp
  have hrun : (execOp a.eval o).run P w = .ok (.value (.slice (some ⟨w.heap.size, 0, none⟩) n n)) (w.alloc (.cells cs' e)) := by
    have hpm : (ps.map fun (i, x) => (i, a.eval x)).toList = ps.toList.map fun x => (x.1, a.eval x.2) := by simp
    have h16 : ¬ (16777216 < n * ti.size) := by omega
    by_cases hn : n * ti.size = 0
    · have e0 : (Array.range (n * ti.size)).map (z.cells[· % z.cells.size]!) = (Array.range (n * ti.size)).map ((#[] : Array Value)[· % (#[] : Array Value).size]!) := by
        rw [hn]; simp
      rw [e0] at h1
      simp only [execOp, ho, Instr.buildSlice, Sem.run_bind, run_underlying hu, Result.andThen_ok, sizeOf, typeInfo, run_program, hti, Sem.run_pure, Nat.reducePow, gt_iff_lt, if_neg h16, if_pos hn, hpm, h1, newRow, run_newObj]
      simp [newRow]
    · simp only [execOp, ho, Instr.buildSlice, Sem.run_bind, run_underlying hu, Result.andThen_ok, sizeOf, typeInfo, run_program, hti, Sem.run_pure, Nat.reducePow, gt_iff_lt, if_neg h16, if_neg hn, zeroValue, hz', hpm, h1, newRow, run_newObj]
      simp [newRow]
  have core : ∀ (hp1 : List Ent) (M1 F1 : HL) (l' : List SV), hp1.length = hp.length → Holds ρ hp1 M1 F1 w → Gr M F M1 F1 → DenL ρ l' cs'.toList → vBslice0 e (cks P e) n l' hp1 (fun v hp2 => K v hp2 M1) → OpWp P o a w (fun v w' => Post K hp.length ρ M F w v w' ∧ ∃ ob, w' = w.alloc ob) := by
    clear h2 h3
    intro hp1 M1 F1 l' hl1 H hG h3 h2
    unfold vBslice0 at h2
    split at h2
    · exact h2.elim
    rename_i c0 cr hck
    have hw : (cks P e).length = ti.size := hzc.symm
    have hlen := h3.length
    have hn16 : n ≤ maxLen := by
      have : n ≤ n * ti.size := Nat.le_mul_of_pos_right _ hz0
      unfold maxLen
      omega
    split at h2
    · obtain ⟨rows, h5, h6, h7⟩ := rowsOf_spec (ρ := ρ) (cks P e) n l' _ (by rw [hlen, hw]; simp [hcsz]) h2
      split at h5
      case h_2 => exact h5.elim
      rw [epush_iff, lenK_eq, lenK_eq, llen_eq, llen_eq] at h5
      obtain ⟨h9, h8⟩ := h7 _ h3
      rw [hl1] at h5
      refine .of_value hrun ⟨⟨_, grow ρ hp.length (some (w.heap.size, 0, n)), _, M1, F1, h5, by simp [hl1], grow_ext _ _ _, hl1 ▸ H.newRow rfl (by omega) hn16 (by rw [hcsz, hw]) (by omega) (rowAt_flatten h8 ?_), hG, ⟨rfl, rfl, rfl, by simp⟩, ?_⟩, _, rfl⟩
      · intro j x hj
        rw [← h9] at hj
        simpa using hj
      · exact ⟨_, n, rfl, Nat.le_refl _, .inr ⟨w.heap.size, 0, n, grow_self _ _ _, by simp, by omega⟩⟩
    · split at h2
      case h_2 => exact h2.elim
      rw [epush_iff, lenK_eq, lenK_eq, llen_eq, llen_eq] at h2
      rw [hl1] at h2
      refine .of_value hrun ⟨⟨_, grow ρ hp.length (some (w.heap.size, 0, n)), _, M1, F1, h2, by simp [hl1], grow_ext _ _ _, hl1 ▸ H.alloc rfl ?_, hG, ⟨rfl, rfl, rfl, by simp⟩, ?_⟩, _, rfl⟩
      · exact ⟨w.heap.size, n, cs', grow_self _ _ _, heap_alloc_new w _, h3.mono (H.le (grow_ext _ _ _))⟩
      · exact ⟨_, n, rfl, Nat.le_refl _, .inr ⟨w.heap.size, 0, n, grow_self _ _ _, by simp, by omega⟩⟩
  unfold vBslice at h2
  split at h2
  · obtain ⟨l1, hp1, M1, F1, h5, h6, h7, h8, h9, _⟩ := frzL_sound h2 H h3
    exact core hp1 M1 F1 l1 h6 h7 h8 h9 h5
  · exact core hp M F l' rfl H (Gr.refl M F) h3 h2
theorem s_bslice {o : Oper} {t : TypeId} {n : Nat} {ps : Array (Nat × Operand)} (ho : o.op = .buildSlice t n ps) (h : vcOp Γ (cop P o) tm hp M K) : OpWp P o a w (Post K hp.length ρ M F w) :=
  fun K' Q hk => s_bslice2 H hD ho h K' Q fun v w' hr => hk v w' hr.1
theorem cop_bslice {o : Oper} {e : TypeId} {ck : List CK} {n : Nat} {z : List SV} {ps : List (Nat × Nat × PArg)} (h : cop P o = .bslice e ck n z ps) : ∃ t n ps, o.op = .buildSlice t n ps := by
  have _ := @H
  have _ := @hD
  cases hop : o.op <;> simp only [cop, hop] at h
  case buildSlice t n ps => exact ⟨t, n, ps, rfl⟩
  all_goals
    first
      | cases h
      | (repeat' split at h) <;> cases h
end
end Go.Vc
