/-
  Symbolic execution, part N2: slices.Backward's closure, walked for whatever a round keeps.
-/
import Derived.Test.YthomcgclkbmnkaaDoorVcn1
import Derived.RangeFuncSeq
namespace Go.Vc
set_option maxRecDepth 10000

def backA : List PO := [⟨some 4, .load none (.t 1), none⟩, ⟨some 5, .len (.t 4), none⟩, ⟨some 6, .bin .sub (.t 5) (.c (.v (.int .i64 1))), none⟩, ⟨some 3, .mov (.t 6), none⟩]
def backB : List PO := [⟨some 7, .mov (.t 3), none⟩, ⟨some 8, .bin .geq (.t 7) (.c (.v (.int .i64 0))), none⟩]
def backC (s : Option Nat) : List PO := [⟨some 11, .mov (.t 0), none⟩, ⟨some 12, .mov (.t 3), none⟩, ⟨some 13, .load none (.t 1), none⟩, ⟨some 14, .mov (.t 3), none⟩, ⟨some 15, .idx (s.getD 1) (.t 13) (.t 14), none⟩,
  ⟨some 16, .load s (.t 15), none⟩, ⟨some 17, .callv (.t 11) [.t 12, .t 16], none⟩, ⟨some 18, .un .not (.t 17), none⟩]
def backD : List PO := [⟨some 9, .mov (.t 3), none⟩, ⟨some 10, .bin .sub (.t 9) (.c (.v (.int .i64 1))), none⟩, ⟨some 3, .mov (.t 10), none⟩]
def backPC (s : Option Nat) : PCode := .seq (.ops false backA .done) (.block 0 (.loop (.seq (.seq (.ops false backB .done) (.cond (.t 8) .skip (.exit 0)))
  (.seq (.block 1 (.seq (.ops false (backC s) .done) (.cond (.t 18) .ret .skip))) (.ops false backD .done)))))
def IsBack (P : Program) (g : Nat) (s : Option Nat) : Prop :=
  ∃ fn c pl, P.funcs[g]? = some fn ∧ fn.body = some c ∧ (fn.name == "runtime.NumGoroutine") = false ∧ fn.ntmps = 19 ∧ fn.results = #[] ∧ ccode P pl c = backPC s ∧ guardsAll pl c = true

section inv
variable {P : Program} {pl : Nat → DT} {c : Code}
theorem inv_seq {a b : PCode} (h : ccode P pl c = .seq a b) : ∃ x y, c = .seq x y ∧ ccode P pl x = a ∧ ccode P pl y = b := by
  cases c with
  | seq x y => simp only [ccode, PCode.seq.injEq] at h; exact ⟨x, y, rfl, h.1, h.2⟩
  | region id ops draw => simp only [ccode] at h; split at h <;> cases h
  | _ => simp only [ccode] at h; cases h
theorem inv_block {i : Nat} {b : PCode} (h : ccode P pl c = .block i b) : ∃ x, c = .block i x ∧ ccode P pl x = b := by
  cases c with
  | block j x => simp only [ccode, PCode.block.injEq] at h; exact ⟨x, by rw [h.1], h.2⟩
  | region id ops draw => simp only [ccode] at h; split at h <;> cases h
  | _ => simp only [ccode] at h; cases h
theorem inv_loop {b : PCode} (h : ccode P pl c = .loop b) : ∃ x, c = .loop x ∧ ccode P pl x = b := by
  cases c with
  | loop x => simp only [ccode, PCode.loop.injEq] at h; exact ⟨x, rfl, h⟩
  | region id ops draw => simp only [ccode] at h; split at h <;> cases h
  | _ => simp only [ccode] at h; cases h
theorem inv_cond {t : PArg} {a b : PCode} (h : ccode P pl c = .cond t a b) : ∃ u x y, c = .cond u x y ∧ carg u = t ∧ ccode P pl x = a ∧ ccode P pl y = b := by
  cases c with
  | cond u x y => simp only [ccode, PCode.cond.injEq] at h; exact ⟨u, x, y, rfl, h.1, h.2.1, h.2.2⟩
  | region id ops draw => simp only [ccode] at h; split at h <;> cases h
  | _ => simp only [ccode] at h; cases h
theorem inv_skip (h : ccode P pl c = .skip) : c = .skip := by
  cases c with
  | skip => rfl
  | region id ops draw => simp only [ccode] at h; split at h <;> cases h
  | _ => simp only [ccode] at h; cases h
theorem inv_ret (h : ccode P pl c = .ret) : c = .ret := by
  cases c with
  | ret => rfl
  | region id ops draw => simp only [ccode] at h; split at h <;> cases h
  | _ => simp only [ccode] at h; cases h
theorem inv_exit {i : Nat} (h : ccode P pl c = .exit i) : c = .exit i := by
  cases c with
  | exit j => simp only [ccode, PCode.exit.injEq] at h; rw [h]
  | region id ops draw => simp only [ccode] at h; split at h <;> cases h
  | _ => simp only [ccode] at h; cases h
theorem inv_ops {l : List PO} (h : ccode P pl c = .ops false l .done) : ∃ id ops, c = .region id ops false ∧ ops.toList.map (cpo P ops) = l := by
  cases c with
  | region id ops draw =>
    simp only [ccode] at h
    split at h
    · cases h
    · simp only [PCode.ops.injEq] at h
      obtain ⟨rfl, h2, _⟩ := h
      exact ⟨id, ops, rfl, h2⟩
  | _ => simp only [ccode] at h; cases h
end inv

section steps
variable {P : Program} {ops : Array Oper} {Q : Exit → Act → World → Prop} {n : Nat} {o : Oper} {l : List Oper} {d : Nat} {a : Act} {w : World} {ρ : Nat → Loc} {hp : List Ent} {M F : HL} {tm : List SV}

theorem no_guard {op : POp} (hg : ∀ j want, o.guard = some (j, want) → ((ops[j]?).bind (·.dst)).isSome = true) (hc : cpo P ops o = ⟨some d, op, none⟩) : o.guard = none ∧ o.dst = some d ∧ cop P o = op := by
  have h1 : o.dst = some d := congrArg PO.dst hc
  have h2 : cop P o = op := congrArg PO.op hc
  have h3 : (o.guard.bind fun (j, want) => ((ops[j]?).bind (·.dst)).map fun t => (t, want)) = none := congrArg PO.guard hc
  refine ⟨?_, h1, h2⟩
  cases hgd : o.guard with
  | none => rfl
  | some x =>
    obtain ⟨j, want⟩ := x
    have := hg j want hgd
    rw [hgd] at h3
    simp only [Option.bind_some, Option.map_eq_none_iff] at h3
    rw [h3] at this
    cases this

theorem st_val (hg : o.guard = none) (hd : ∀ c, o.op ≠ .defer c) {v : Value} (hr : (execOp a.eval o).run P w = .ok (.value v) w) (next : wpListIn (Wd none) n P ops Q l (a.put o.dst v) w) : wpListIn (Wd none) n P ops Q (o :: l) a w :=
  wpListIn_plain hg fun K hK => op_in hd (by unfold Oper.wp; rw [hr]; exact hK _ _ next)

theorem st_pure {op : POp} (sv : SV) (hg : ∀ j want, o.guard = some (j, want) → ((ops[j]?).bind (·.dst)).isSome = true) (hd : ∀ c, o.op ≠ .defer c) (hc : cpo P ops o = ⟨some d, op, none⟩) (hpu : pureO op = true) (H : Holds ρ hp M F w) (hD : DenL ρ tm a.tmps.toList)
    (h : vcOp (fun _ => none) op tm hp M fun v _ _ => v = sv) (next : ∀ a', DenL ρ (tm.set d sv) a'.tmps.toList → a'.defers = a.defers → wpListIn (Wd none) n P ops Q l a' w) : wpListIn (Wd none) n P ops Q (o :: l) a w := by
  obtain ⟨h1, h2, h3⟩ := no_guard hg hc
  rw [← h3] at h hpu
  rcases vcOp_both (P := P) (Γ := fun _ => none) (fun _ _ h => by cases h) H hD h with ⟨v, sv', hr, hk, hv⟩ | ⟨hq, _⟩
  · subst hk
    refine st_val h1 hd (hr w) (next _ ?_ ?_)
    · rw [h2]; simpa [Act.put] using hD.set hv d
    · rw [h2]; rfl
  · rw [hpu] at hq; cases hq

theorem st_load {s : Option Nat} {x : PArg} {ad : Addr} {y : Value} (hg : ∀ j want, o.guard = some (j, want) → ((ops[j]?).bind (·.dst)).isSome = true) (hd : ∀ c, o.op ≠ .defer c) (hc : cpo P ops o = ⟨some d, .load s x, none⟩)
    (hev : ∀ x0, carg x0 = x → a.eval x0 = .pointer (some ad)) (hf : Finds s w ad y) (next : wpListIn (Wd none) n P ops Q l (a.put (some d) y) w) : wpListIn (Wd none) n P ops Q (o :: l) a w := by
  obtain ⟨h1, h2, h3⟩ := no_guard hg hc
  obtain ⟨t, x0, ho, hu, hi, hs, hx⟩ := cop_load h3
  subst hs
  refine st_val h1 hd (load_ok ho hu hi (hev x0 hx.symm) hf) ?_
  rw [h2]
  exact next

theorem inv_callv {x : PArg} {xs : List PArg} (h : cop P o = .callv x xs) : ∃ c g, o.op = .call c ∧ c.callee = .value g ∧ carg g = x ∧ c.args.toList.map carg = xs := by
  unfold cop at h
  cases ho : o.op with
  | call c =>
    simp only [ho] at h
    cases hc : c.callee with
    | value g =>
      simp only [hc] at h
      split at h
      · cases h
      · rename_i g' hg
        cases hg
        simp only [POp.callv.injEq] at h
        exact ⟨c, _, rfl, hc, h.1, h.2⟩
      all_goals (first | cases h | (split at h <;> cases h) | skip)
      all_goals (rename_i hh; cases hh)
    | _ =>
      simp only [hc] at h
      repeat' (first | contradiction | (cases h; done) | split at h)
  | _ =>
    simp only [ho] at h
    repeat' (first | cases h | split at h)

theorem st_yield {l1 : Nat} {k : Int} {y : Value} {R : Ending → World → Prop} (hg : ∀ j want, o.guard = some (j, want) → ((ops[j]?).bind (·.dst)).isSome = true) (hd : ∀ c, o.op ≠ .defer c) (hc : cpo P ops o = ⟨some 17, .callv (.t 11) [.t 12, .t 16], none⟩)
    (h11 : ∀ x0, carg x0 = .t 11 → a.eval x0 = .func (.yield l1) #[] #[]) (h12 : ∀ x0, carg x0 = .t 12 → a.eval x0 = .int .i64 k) (h16 : ∀ x0, carg x0 = .t 16 → a.eval x0 = y)
    (hY : YieldAt (Wd none) (n - 1) P l1 #[.int .i64 k, y] w R) (next : ∀ e w', R e w' → ∃ v, e = .returned v ∧ wpListIn (Wd none) n P ops Q l (a.put (some 17) v) w') : wpListIn (Wd none) n P ops Q (o :: l) a w := by
  obtain ⟨h1, h2, h3⟩ := no_guard hg hc
  obtain ⟨c, g, ho, hcal, hgx, hxs⟩ := inv_callv h3
  obtain ⟨fn, tmps, assign, body, hy, hR⟩ := hY
  have hargs : c.args.map a.eval = #[.int .i64 k, y] := by
    apply Array.ext'
    rw [Array.toList_map]
    match hl : c.args.toList, hxs with
    | [x1, x2], hxs =>
      simp only [List.map_cons, List.map_nil, List.cons.injEq, and_true] at hxs
      simp [h12 x1 hxs.1, h16 x2 hxs.2]
    | [], hxs => simp at hxs
    | [_], hxs => simp at hxs
    | _ :: _ :: _ :: _, hxs => simp at hxs
  have hrun : (execOp a.eval o).run P w = .ok (.round l1 fn tmps assign body) w := by
    simp [execOp, ho, resolve, hcal, h11 g hgx, Deferred.ofValue, invoke, hargs, hy]
  refine wpListIn_plain h1 fun K hK => ⟨fun _ _ => trivial, ?_⟩
  rw [Oper.semAt_eq _ _ _ hd, hrun]
  refine ⟨fun h => (by cases h), hR.mono fun e w' hr => ?_⟩
  obtain ⟨v, rfl, hn⟩ := next e w' hr
  rw [h2]
  exact hK _ _ hn
end steps

def tmI (l bb : Nat) (y : SV) : List SV := [.fn (.yield l) [] [], .v (.pointer (some ⟨bb, 0, none⟩)), .any, y, .any, .any, .any, .any, .any, .any, .any, .any, .any, .any, .any, .any, .any, .any, .any]
theorem tmI_den {l bb : Nat} {ρ : Nat → Loc} {y : SV} {vs : List Value} (hl : vs.length = 19) (h0 : vs[0]? = some (.func (.yield l) #[] #[])) (h1 : vs[1]? = some (.pointer (some ⟨bb, 0, none⟩))) (h3 : ∃ v, vs[3]? = some v ∧ Den ρ y v) : DenL ρ (tmI l bb y) vs := by
  obtain ⟨v3, h3, h4⟩ := h3
  refine DenL.of_get (by rw [hl]; rfl) fun j x v hx hv => ?_
  rcases j with _ | _ | _ | _ | j
  · rw [h0] at hv; cases hv; cases hx; exact ⟨[], [], rfl, trivial, trivial⟩
  · rw [h1] at hv; cases hv; cases hx; rfl
  · cases hx; trivial
  · rw [h3] at hv; cases hv; cases hx; exact h4
  · have : x = .any := by
      rcases j with _ | _ | _ | _ | _ | _ | _ | _ | _ | _ | _ | _ | _ | _ | _ | j <;> first | (cases hx; rfl) | (exact absurd hx (by simp [tmI]))
    rw [this]
    trivial
/-- The slots that the closure keeps. -/
def Keeps3 (l bb : Nat) (vs : List Value) : Prop := vs.length = 19 ∧ vs[0]? = some (.func (.yield l) #[] #[]) ∧ vs[1]? = some (.pointer (some ⟨bb, 0, none⟩))
theorem Keeps3.of {l bb : Nat} {ρ : Nat → Loc} {tm : List SV} {vs : List Value} (h : DenL ρ tm vs) (hl : tm.length = 19) (h0 : tm[0]? = some (.fn (.yield l) [] [])) (h1 : tm[1]? = some (.v (.pointer (some ⟨bb, 0, none⟩)))) : Keeps3 l bb vs := by
  obtain ⟨v0, e0, d0⟩ := h.get h0
  obtain ⟨v1, e1, d1⟩ := h.get h1
  refine ⟨by rw [← h.length, hl], ?_, ?_⟩
  · rw [e0]
    simp only [Den] at d0
    obtain ⟨x, z, rfl, hx, hz⟩ := d0
    have hx0 : x = [] := by cases x with | nil => rfl | cons _ _ => simp [DenL] at hx
    have hz0 : z = [] := by cases z with | nil => rfl | cons _ _ => simp [DenL] at hz
    subst hx0; subst hz0
    rfl
  · rw [e1]
    simp only [Den] at d1
    rw [d1]
theorem carg_t {x : Operand} {j : Nat} (h : carg x = .t j) : x = .tmp j := by
  cases x <;> simp only [carg] at h <;> first | (cases h; rfl) | cases h
theorem eval_t {a : Act} {j : Nat} {v : Value} (h : a.tmps.toList[j]? = some v) (x : Operand) (hx : carg x = .t j) : a.eval x = v := by
  rw [carg_t hx]
  have : a.tmps[j]? = some v := by simpa using h
  simp [Act.eval, Array.getD_eq_getD_getElem?, this]

theorem mem_ops {P : Program} {ops : Array Oper} {l : List PO} (h : ops.toList.map (cpo P ops) = l) {po : PO} {r : List PO} (hl : l = po :: r) : ∃ o rest, ops.toList = o :: rest ∧ cpo P ops o = po ∧ rest.map (cpo P ops) = r := by
  rw [hl] at h
  obtain ⟨o, rest, h1, h2, h3⟩ := List.map_eq_cons_iff.1 h
  exact ⟨o, rest, h1, h2, h3⟩

theorem vLen_slc {n w i len : Nat} {K : SV → Prop} (h : K (.v (.int .i64 (len : Int)))) : vLen (.slc n w i len) K := h

section walk
variable {P : Program} {pl : Nat → DT} {ops : Array Oper} {Q : Exit → Act → World → Prop} {n l bb nn i len : Nat} {s : Option Nat} {a : Act} {W : World} {ρ : Nat → Loc} {hp : List Ent} {M F : HL} {v0 : Value}

theorem backA_walk (hgd : guardsOK ops = true) (hnd : noDefer ops = true) (hl : ops.toList.map (cpo P ops) = backA) (hlen : len ≤ 1000000) (hk3 : Keeps3 l bb a.tmps.toList) (H : Holds ρ hp M F W) (hv : W.cell? ⟨bb, 0, none⟩ = some v0) (hd0 : Den ρ (.slc nn (s.getD 1) i len) v0)
    (hQ : ∀ a', Keeps3 l bb a'.tmps.toList → a'.tmps.toList[3]? = some (.int .i64 ((len : Int) - 1)) → a'.defers = a.defers → Q .normal a' W) : wpListIn (Wd none) n P ops Q ops.toList a W := by
  have hg := guards_spec hgd
  have hd := noDefer_spec hnd
  obtain ⟨o1, r1, e1, c1, m1⟩ := List.map_eq_cons_iff.1 hl
  obtain ⟨o2, r2, e2, c2, m2⟩ := List.map_eq_cons_iff.1 m1
  obtain ⟨o3, r3, e3, c3, m3⟩ := List.map_eq_cons_iff.1 m2
  obtain ⟨o4, r4, e4, c4, m4⟩ := List.map_eq_cons_iff.1 m3
  obtain rfl := List.map_eq_nil_iff.1 m4
  subst e4; subst e3; subst e2
  rw [e1] at hg hd ⊢
  obtain ⟨k1, k2, k3⟩ := hk3
  obtain ⟨v3, h3⟩ : ∃ v, a.tmps.toList[3]? = some v := ⟨_, List.getElem?_eq_getElem (by omega)⟩
  have hD : DenL ρ (tmI l bb .any) a.tmps.toList := tmI_den k1 k2 k3 ⟨v3, h3, trivial⟩
  refine st_load (ad := ⟨bb, 0, none⟩) (y := v0) (hg o1 (by simp)) (hd o1 (by simp)) c1 (fun x0 hx => eval_t k3 x0 hx) hv ?_
  have hD1 : DenL ρ ((tmI l bb .any).set 4 (.slc nn (s.getD 1) i len)) (a.put (some 4) v0).tmps.toList := by simpa [Act.put] using hD.set hd0 4
  refine st_pure (.v (.int .i64 (len : Int))) (hg o2 (by simp)) (hd o2 (by simp)) c2 rfl H hD1 rfl fun a2 hD2 q2 => ?_
  refine st_pure (.v (.int .i64 (IntKind.i64.wrap ((len : Int) - 1)))) (hg o3 (by simp)) (hd o3 (by simp)) c3 rfl H hD2 rfl fun a3 hD3 q3 => ?_
  refine st_pure (.v (.int .i64 (IntKind.i64.wrap ((len : Int) - 1)))) (hg o4 (by simp)) (hd o4 (by simp)) c4 rfl H hD3 rfl fun a4 hD4 q4 => ?_
  refine hQ a4 (.of hD4 rfl rfl rfl) ?_ (q4.trans (q3.trans q2))
  obtain ⟨v, ev, dv⟩ := hD4.get (n := 3) rfl
  rw [ev]
  simp only [Den] at dv
  rw [← dv, IntKind.wrap_i64]
  congr 2
  omega

theorem backB_walk {k : Nat} (hgd : guardsOK ops = true) (hnd : noDefer ops = true) (hl : ops.toList.map (cpo P ops) = backB) (hk3 : Keeps3 l bb a.tmps.toList) (hy : a.tmps.toList[3]? = some (.int .i64 ((k : Int) - 1))) (H : Holds ρ hp M F W)
    (hQ : ∀ a', Keeps3 l bb a'.tmps.toList → a'.tmps.toList[3]? = some (.int .i64 ((k : Int) - 1)) → a'.tmps.toList[8]? = some (.bool (decide ((k : Int) - 1 ≥ 0))) → a'.defers = a.defers → Q .normal a' W) : wpListIn (Wd none) n P ops Q ops.toList a W := by
  have hg := guards_spec hgd
  have hd := noDefer_spec hnd
  obtain ⟨o1, r1, e1, c1, m1⟩ := List.map_eq_cons_iff.1 hl
  obtain ⟨o2, r2, e2, c2, m2⟩ := List.map_eq_cons_iff.1 m1
  obtain rfl := List.map_eq_nil_iff.1 m2
  subst e2
  rw [e1] at hg hd ⊢
  obtain ⟨k1, k2, k3⟩ := hk3
  have hD : DenL ρ (tmI l bb (.v (.int .i64 ((k : Int) - 1)))) a.tmps.toList := tmI_den k1 k2 k3 ⟨_, hy, rfl⟩
  refine st_pure (.v (.int .i64 ((k : Int) - 1))) (hg o1 (by simp)) (hd o1 (by simp)) c1 rfl H hD rfl fun a1 hD1 q1 => ?_
  refine st_pure (.v (.bool (decide ((k : Int) - 1 ≥ 0)))) (hg o2 (by simp)) (hd o2 (by simp)) c2 rfl H hD1 rfl fun a2 hD2 q2 => ?_
  refine hQ a2 (.of hD2 rfl rfl rfl) ?_ ?_ (q2.trans q1)
  · obtain ⟨v, ev, dv⟩ := hD2.get (n := 3) rfl
    rw [ev]; simp only [Den] at dv; rw [dv]
  · obtain ⟨v, ev, dv⟩ := hD2.get (n := 8) rfl
    rw [ev]; simp only [Den] at dv; rw [dv]

theorem backD_walk {k : Nat} (hk : (k : Int) ≤ 1000000) (hgd : guardsOK ops = true) (hnd : noDefer ops = true) (hl : ops.toList.map (cpo P ops) = backD) (hk3 : Keeps3 l bb a.tmps.toList) (hy : a.tmps.toList[3]? = some (.int .i64 (k : Int))) (H : Holds ρ hp M F W)
    (hQ : ∀ a', Keeps3 l bb a'.tmps.toList → a'.tmps.toList[3]? = some (.int .i64 ((k : Int) - 1)) → a'.defers = a.defers → Q .normal a' W) : wpListIn (Wd none) n P ops Q ops.toList a W := by
  have hg := guards_spec hgd
  have hd := noDefer_spec hnd
  obtain ⟨o1, r1, e1, c1, m1⟩ := List.map_eq_cons_iff.1 hl
  obtain ⟨o2, r2, e2, c2, m2⟩ := List.map_eq_cons_iff.1 m1
  obtain ⟨o3, r3, e3, c3, m3⟩ := List.map_eq_cons_iff.1 m2
  obtain rfl := List.map_eq_nil_iff.1 m3
  subst e3; subst e2
  rw [e1] at hg hd ⊢
  obtain ⟨k1, k2, k3⟩ := hk3
  have hD : DenL ρ (tmI l bb (.v (.int .i64 (k : Int)))) a.tmps.toList := tmI_den k1 k2 k3 ⟨_, hy, rfl⟩
  refine st_pure (.v (.int .i64 (k : Int))) (hg o1 (by simp)) (hd o1 (by simp)) c1 rfl H hD rfl fun a1 hD1 q1 => ?_
  refine st_pure (.v (.int .i64 (IntKind.i64.wrap ((k : Int) - 1)))) (hg o2 (by simp)) (hd o2 (by simp)) c2 rfl H hD1 rfl fun a2 hD2 q2 => ?_
  refine st_pure (.v (.int .i64 (IntKind.i64.wrap ((k : Int) - 1)))) (hg o3 (by simp)) (hd o3 (by simp)) c3 rfl H hD2 rfl fun a3 hD3 q3 => ?_
  refine hQ a3 (.of hD3 rfl rfl rfl) ?_ (q3.trans (q2.trans q1))
  obtain ⟨v, ev, dv⟩ := hD3.get (n := 3) rfl
  rw [ev]
  simp only [Den] at dv
  rw [← dv, IntKind.wrap_i64]
  congr 2
  omega

theorem backC_walk {k : Nat} {R : Ending → World → Prop} (hk : k < len) (hgd : guardsOK ops = true) (hnd : noDefer ops = true) (hl : ops.toList.map (cpo P ops) = backC s) (hk3 : Keeps3 l bb a.tmps.toList) (hy : a.tmps.toList[3]? = some (.int .i64 (k : Int)))
    (H : Holds ρ hp M F W) (hv : W.cell? ⟨bb, 0, none⟩ = some v0) (hd0 : Den ρ (.slc nn (s.getD 1) i len) v0) (hic : isCells (eget hp nn) = false)
    {KK : SV → Prop} (hL : vLoad s (.ptr nn (s.getD 1) (i + k) 0) hp M KK) (hY : ∀ x y, KK x → Den ρ x y → YieldAt (Wd none) (n - 1) P l #[.int .i64 k, y] W R)
    (hR : ∀ e w', R e w' → ∃ b : Bool, e = .returned (.bool b) ∧ (∃ ρ2 hp2 M2 F2, Holds ρ2 hp2 M2 F2 w') ∧
      ∀ a', Keeps3 l bb a'.tmps.toList → a'.tmps.toList[3]? = some (.int .i64 (k : Int)) → a'.tmps.toList[18]? = some (.bool (!b)) → a'.defers = a.defers → Q .normal a' w') : wpListIn (Wd none) n P ops Q ops.toList a W := by
  have hg := guards_spec hgd
  have hd := noDefer_spec hnd
  obtain ⟨o1, r1, e1, c1, m1⟩ := List.map_eq_cons_iff.1 hl
  obtain ⟨o2, r2, e2, c2, m2⟩ := List.map_eq_cons_iff.1 m1
  obtain ⟨o3, r3, e3, c3, m3⟩ := List.map_eq_cons_iff.1 m2
  obtain ⟨o4, r4, e4, c4, m4⟩ := List.map_eq_cons_iff.1 m3
  obtain ⟨o5, r5, e5, c5, m5⟩ := List.map_eq_cons_iff.1 m4
  obtain ⟨o6, r6, e6, c6, m6⟩ := List.map_eq_cons_iff.1 m5
  obtain ⟨o7, r7, e7, c7, m7⟩ := List.map_eq_cons_iff.1 m6
  obtain ⟨o8, r8, e8, c8, m8⟩ := List.map_eq_cons_iff.1 m7
  obtain rfl := List.map_eq_nil_iff.1 m8
  subst e8; subst e7; subst e6; subst e5; subst e4; subst e3; subst e2
  rw [e1] at hg hd ⊢
  obtain ⟨k1, k2, k3⟩ := hk3
  have hD : DenL ρ (tmI l bb (.v (.int .i64 (k : Int)))) a.tmps.toList := tmI_den k1 k2 k3 ⟨_, hy, rfl⟩
  refine st_pure (.fn (.yield l) [] []) (hg o1 (by simp)) (hd o1 (by simp)) c1 rfl H hD rfl fun a1 hD1 q1 => ?_
  refine st_pure (.v (.int .i64 (k : Int))) (hg o2 (by simp)) (hd o2 (by simp)) c2 rfl H hD1 rfl fun a2 hD2 q2 => ?_
  refine st_load (ad := ⟨bb, 0, none⟩) (y := v0) (hg o3 (by simp)) (hd o3 (by simp)) c3 (fun x0 hx => eval_t (Keeps3.of hD2 rfl rfl rfl).2.2 x0 hx) hv ?_
  have hD3 : DenL ρ ((((tmI l bb (.v (.int .i64 (k : Int)))).set 11 (.fn (.yield l) [] [])).set 12 (.v (.int .i64 (k : Int)))).set 13 (.slc nn (s.getD 1) i len)) (a2.put (some 13) v0).tmps.toList := by simpa [Act.put] using hD2.set hd0 13
  have q3 : (a2.put (some 13) v0).defers = a2.defers := rfl
  generalize a2.put (some 13) v0 = a3 at hD3 q3 ⊢
  refine st_pure (.v (.int .i64 (k : Int))) (hg o4 (by simp)) (hd o4 (by simp)) c4 rfl H hD3 rfl fun a4 hD4 q4 => ?_
  have hidx : vIdx (s.getD 1) (.slc nn (s.getD 1) i len) (.v (.int .i64 (k : Int))) hp fun v => v = .ptr nn (s.getD 1) (i + k) 0 := by
    unfold vIdx
    simp only [vInt, Nat.beq_refl, hic]
    exact ⟨by omega, by omega, by simp⟩
  refine st_pure (.ptr nn (s.getD 1) (i + k) 0) (hg o5 (by simp)) (hd o5 (by simp)) c5 rfl H hD4 hidx fun a5 hD5 q5 => ?_
  obtain ⟨vp, ep, dp⟩ := hD5.get (n := 15) rfl
  obtain ⟨ad, y, sv, hvp, hf, hyy, hdy⟩ := vLoad_sound hL H dp
  subst hvp
  refine st_load (ad := ad) (y := y) (hg o6 (by simp)) (hd o6 (by simp)) c6 (fun x0 hx => eval_t ep x0 hx) hf ?_
  have hD6 := hD5.set hdy 16
  have hD6' := hD6
  rw [show a5.tmps.toList.set 16 y = (a5.put (some 16) y).tmps.toList by simp [Act.put]] at hD6'
  have q6 : (a5.put (some 16) y).defers = a5.defers := rfl
  have e16 : (a5.put (some 16) y).tmps.toList[16]? = some y := by
    have hl5 := hD5.length
    have : (a5.tmps.toList).length = 19 := by rw [← hl5]; rfl
    have : a5.tmps.size = 19 := by simpa using this
    simp [Act.put, this]
  generalize a5.put (some 16) y = a6 at hD6' q6 e16 ⊢
  have hk6 : Keeps3 l bb a6.tmps.toList := .of hD6' rfl rfl rfl
  obtain ⟨v11, e11, d11⟩ := hD6'.get (n := 11) rfl
  obtain ⟨v12, e12, d12⟩ := hD6'.get (n := 12) rfl
  obtain ⟨v3, e3', d3⟩ := hD6'.get (n := 3) rfl
  have h11 : v11 = .func (.yield l) #[] #[] := by
    simp only [Den] at d11
    obtain ⟨x, z, rfl, hx, hz⟩ := d11
    have hx0 : x = [] := by cases x with | nil => rfl | cons _ _ => simp [DenL] at hx
    have hz0 : z = [] := by cases z with | nil => rfl | cons _ _ => simp [DenL] at hz
    subst hx0; subst hz0
    rfl
  simp only [Den] at d12 d3
  refine st_yield (l1 := l) (k := (k : Int)) (y := y) (hg o7 (by simp)) (hd o7 (by simp)) c7 (fun x0 hx => by rw [eval_t e11 x0 hx, h11]) (fun x0 hx => by rw [eval_t e12 x0 hx, d12]) (fun x0 hx => eval_t e16 x0 hx) (hY _ y hyy hdy) fun e w' hr => ?_
  obtain ⟨b, rfl, ⟨ρ2, hp2, M2, F2, H2⟩, hfin⟩ := hR e w' hr
  refine ⟨_, rfl, ?_⟩
  obtain ⟨u1, u2, u3⟩ := hk6
  have hD7 : DenL ρ2 ((tmI l bb (.v (.int .i64 (k : Int)))).set 17 (.v (.bool b))) (a6.put (some 17) (.bool b)).tmps.toList := by
    have : DenL ρ2 (tmI l bb (.v (.int .i64 (k : Int)))) a6.tmps.toList := tmI_den u1 u2 u3 ⟨v3, e3', by simp only [Den]; exact d3⟩
    simpa [Act.put] using this.set (show Den ρ2 (.v (.bool b)) (.bool b) from rfl) 17
  have q7 : (a6.put (some 17) (.bool b)).defers = a6.defers := rfl
  generalize a6.put (some 17) (.bool b) = a7 at hD7 q7 ⊢
  refine st_pure (.v (.bool (!b))) (hg o8 (by simp)) (hd o8 (by simp)) c8 rfl H2 hD7 rfl fun a8 hD8 q8 => ?_
  refine hfin a8 (.of hD8 rfl rfl rfl) ?_ ?_ (by rw [q8, q7, q6, q5, q4, q3, q2, q1])
  · obtain ⟨v, ev, dv⟩ := hD8.get (n := 3) rfl
    rw [ev]; simp only [Den] at dv; rw [dv]
  · obtain ⟨v, ev, dv⟩ := hD8.get (n := 18) rfl
    rw [ev]; simp only [Den] at dv; rw [dv]
end walk

/-- slices.Backward's closure, for whatever a round keeps: the elements come from the last to the first, until a round says 'no more'. -/
theorem back_calls {P : Program} {g : Nat} {s : Option Nat} (hI : IsBack P g s) {l bb nn i len n : Nat} (hlen : len ≤ 1000000) {J : Nat → World → Prop} {Jx : World → Prop}
    (hX : ∀ W, Jx W → ∃ ρ hp M F, Holds ρ hp M F W)
    (hJ : ∀ k W, J k W → ∃ ρ hp M F v0, Holds ρ hp M F W ∧ W.cell? ⟨bb, 0, none⟩ = some v0 ∧ Den ρ (.slc nn (s.getD 1) i len) v0 ∧
      ∀ k', k = k' + 1 → k' < len → isCells (eget hp nn) = false ∧ ∃ KK : SV → Prop, vLoad s (.ptr nn (s.getD 1) (i + k') 0) hp M KK ∧ ∀ x y, KK x → Den ρ x y → YieldAt (Wd none) (n - 1) P l #[.int .i64 k', y] W fun e W' =>
        (e = .returned (.bool true) ∧ J k' W') ∨ (e = .returned (.bool false) ∧ Jx W'))
    {W : World} (h0 : J len W) : CallsIn (Wd none) n P g #[.func (.yield l) #[] #[], .pointer (some ⟨bb, 0, none⟩)] W fun e W' => (∃ v, e = .returned v) ∧ (J 0 W' ∨ Jx W') := by
  obtain ⟨fn, c, pl, hf, hb, _, hnt, hres, hc, hgd⟩ := hI
  obtain ⟨cA, c1, rfl, hA, h1⟩ := inv_seq hc
  obtain ⟨c2, rfl, h2⟩ := inv_block h1
  obtain ⟨c3, rfl, h3⟩ := inv_loop h2
  obtain ⟨c4, c5, rfl, h4, h5⟩ := inv_seq h3
  obtain ⟨cB, c6, rfl, hB, h6⟩ := inv_seq h4
  obtain ⟨u8, x1, x2, rfl, hu8, hx1, hx2⟩ := inv_cond h6
  obtain rfl := inv_skip hx1
  obtain rfl := inv_exit hx2
  obtain ⟨c7, cD, rfl, h7, hD⟩ := inv_seq h5
  obtain ⟨c8, rfl, h8⟩ := inv_block h7
  obtain ⟨cC, c9, rfl, hC, h9⟩ := inv_seq h8
  obtain ⟨u18, x3, x4, rfl, hu18, hx3, hx4⟩ := inv_cond h9
  obtain rfl := inv_ret hx3
  obtain rfl := inv_skip hx4
  obtain ⟨iA, oA, rfl, lA⟩ := inv_ops hA
  obtain ⟨iB, oB, rfl, lB⟩ := inv_ops hB
  obtain ⟨iC, oC, rfl, lC⟩ := inv_ops hC
  obtain ⟨iD, oD, rfl, lD⟩ := inv_ops hD
  simp only [guardsAll, Bool.and_eq_true] at hgd
  obtain ⟨⟨⟨gA, dA⟩, _⟩, ⟨⟨⟨⟨gB, dB⟩, _⟩, _⟩, ⟨⟨⟨gC, dC⟩, _⟩, _⟩, ⟨⟨gD, dD⟩, _⟩⟩⟩ := hgd
  have fin : ∀ (a : Act) (W : World), a.defers = [] → (J 0 W ∨ Jx W) → a.defers = [] ∧ ∃ v, (results fn a.tmps).run P W = .ok v W ∧ ((∃ u, Ending.returned v = .returned u) ∧ (J 0 W ∨ Jx W)) := fun a W hd h => by
    refine ⟨hd, .tuple #[], ?_, ⟨_, rfl⟩, h⟩
    simp [results, hres]
  refine callsIn_of_wp hf hb trivial ?_ rfl
  rw [hnt]
  have hk0 : Keeps3 l bb ((#[.func (.yield l) #[] #[], .pointer (some ⟨bb, 0, none⟩)] ++ Array.replicate (19 - (#[.func (.yield l) #[] #[], .pointer (some ⟨bb, 0, none⟩)] : Array Value).size) undef : Array Value).toList) := ⟨by simp, by simp, by simp⟩
  obtain ⟨ρ, hp, M, F, v0, H, hv, hd0, _⟩ := hJ len W h0
  refine wpIn_seq (wpIn_region_list (backA_walk gA dA lA hlen hk0 H hv hd0 fun a1 k1 y1 q1 => ?_))
  refine wpIn_block (wpIn_loopN (fun k a W => J k W ∧ k ≤ len ∧ Keeps3 l bb a.tmps.toList ∧ a.tmps.toList[3]? = some (.int .i64 ((k : Int) - 1)) ∧ a.defers = []) (fun k a W ⟨hj, hk, k3, y3, qd⟩ => ?_) (n := len) ⟨h0, Nat.le_refl _, k1, y1, q1⟩)
  obtain ⟨ρ, hp, M, F, v0, H, hv, hd0, hY⟩ := hJ k W hj
  refine wpIn_seq (wpIn_seq (wpIn_region_list (backB_walk gB dB lB k3 y3 H fun a2 k4 y4 e8 q2 => ?_)))
  have hc8 := eval_t e8 u8 hu8
  cases k with
  | zero =>
    refine wpIn_cond_false (by rw [hc8]; rfl) (wpIn_exit ?_)
    simp only [Exit.then, Exit.inBlock, if_true]
    exact fin a2 W (q2.trans qd) (.inl hj)
  | succ k =>
    refine wpIn_cond_true (by rw [hc8]; congr 1; exact decide_eq_true (by omega)) (wpIn_skip ?_)
    obtain ⟨hic, KK, hL, hY⟩ := hY k rfl (by omega)
    have y5 : a2.tmps.toList[3]? = some (.int .i64 (k : Int)) := by rw [y4]; congr 2; omega
    refine wpIn_seq (wpIn_block (wpIn_seq (wpIn_region_list (backC_walk (by omega) gC dC lC k4 y5 H hv hd0 hic hL hY fun e w' hr => ?_))))
    rcases hr with ⟨rfl, hj'⟩ | ⟨rfl, hx'⟩
    · obtain ⟨ρ2, hp2, M2, F2, _, H2, _⟩ := hJ k w' hj'
      refine ⟨true, rfl, ⟨ρ2, hp2, M2, F2, H2⟩, fun a3 k6 y6 e18 q3 => ?_⟩
      refine wpIn_cond_false (by rw [eval_t e18 u18 hu18]; rfl) (wpIn_skip ?_)
      refine wpIn_region_list (backD_walk (k := k) (by omega) gD dD lD k6 y6 H2 fun a4 k7 y7 q4 => ?_)
      exact ⟨k, Nat.lt_succ_self k, hj', by omega, k7, y7, q4.trans (q3.trans (q2.trans qd))⟩
    · refine ⟨false, rfl, hX w' hx', fun a3 k6 y6 e18 q3 => ?_⟩
      refine wpIn_cond_true (by rw [eval_t e18 u18 hu18]; rfl) (wpIn_ret ?_)
      exact fin a3 w' (q3.trans (q2.trans qd)) (.inr hx')
end Go.Vc
