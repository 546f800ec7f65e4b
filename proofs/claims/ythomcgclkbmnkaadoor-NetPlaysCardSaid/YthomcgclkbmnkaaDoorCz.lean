/-
  each and Each's closure, put together: the range over the closure.
-/
import Derived.Test.YthomcgclkbmnkaaDoorCy
namespace Go.Proofs.YthomcgclkbmnkaaDoor
open Go Go.Vc
set_option maxRecDepth 100000
set_option linter.unusedSimpArgs false
set_option linter.unusedVariables false
set_option maxHeartbeats 4000000
set_option linter.constructorNameAsVariable false
theorem f13_26 : Fg tm13 tm26 := by
  repeat ((conv => whnf); (first | exact trivial | refine And.intro (.inl rfl) ?_ | refine And.intro (.inr rfl) ?_))
def KR (M : HL) (h r nx : Int) (fl : List Fl) (k st : Int) (ex : Ex) (tm : List SV) (hp : List Ent) (M' : HL) : Prop :=
  M' = M ∧ tm = tm26 ∧ ∃ q, hp = rHp h r nx fl k st q ∧ q ≤ (ofC fl k).length ∧ ((ex = .normal ∧ q = (ofC fl k).length) ∨ (ex = .exit 0 ∧ 0 < st ∧ (q : Int) = st))
theorem range26 {n : Nat} {ρ : Nat → Vc.Loc} {M F : HL} {w : World} {a : Act} {h r nx : Int} {fl : List Fl} {k st : Int} (hl : fl.length ≤ 2000) (H : Holds ρ (preHp h r nx fl k st) M F w) (hD : DenL ρ tm13 a.tmps.toList) :
    (Code.rangeFunc (.tmp 13) #[14] xc yc).wpIn (Wd none) (n + 2) Tryd.prog (CPost (KR M h r nx fl k st) 3 ρ M F w a.defers) a w := by
  obtain ⟨v13, e13, d13⟩ := hD.get (n := 13) (x := .fn (.func 45) [] [.ptr 7 0 0 0, .ptr 8 0 0 0]) rfl
  have hD26 : DenL ρ tm26 a.tmps.toList := f13_26.den hD
  simp only [Den] at d13
  obtain ⟨x1, z1, rfl, hx1, hz1⟩ := d13
  have hx0 : x1 = [] := by cases x1 with | nil => rfl | cons _ _ => simp [DenL] at hx1
  subst hx0
  match z1, hz1 with
  | [], hz1 => simp [DenL] at hz1
  | [_], hz1 => simp [DenL] at hz1
  | _ :: _ :: _ :: _, hz1 => simp [DenL] at hz1
  | [p7, p8], hz1 =>
  simp only [DenL, and_true] at hz1
  obtain ⟨h7, h8⟩ := hz1
  have hfv : a.eval (.tmp 13) = .func (.func 45) #[] #[p7, p8] := eval_t e13 (.tmp 13) rfl
  obtain ⟨D, hDd⟩ : ∃ D, D = w.heap.size := ⟨_, rfl⟩
  obtain ⟨l, hll⟩ : ∃ l, l = D + 1 := ⟨_, rfl⟩
  have hFD : ∀ k, D ≤ k → F k = none := fun k hk => by
    cases hf : F k with
    | none => rfl
    | some o => have := (Array.getElem?_eq_some_iff.1 (H.frm k o hf)).1; omega
  have hMn : ∀ k, F k = none → M k = none := fun k hk => by
    cases hm : M k with
    | none => rfl
    | some o => rw [H.sub k o hm] at hk; cases hk
  refine wpIn_rangeFunc ?_
  intro fn hfn
  obtain ⟨rec, hrec⟩ : ∃ rec : LoopState → Option Code → Loop, rec = fun st pe => { state := st, pending := pe, fn, tmps := a.tmps, params := #[14], assign := xc, body := yc, defers := w.heap.size } := ⟨_, rfl⟩
  obtain ⟨W1, hW1⟩ : ∃ W1, (w.alloc (.deferred (some []))).alloc (.loop (rec .ready none)) = W1 := ⟨_, rfl⟩
  have hW1h : W1.heap = (w.heap.push (.deferred (some []))).push (.loop (rec .ready none)) := by rw [← hW1]; rfl
  have hlo : ∀ k, k < D → W1.heap[k]? = w.heap[k]? := fun k hk => by
    rw [hW1h, Array.getElem?_push_lt (by simp; omega), Array.getElem_push_lt (by omega), Array.getElem?_eq_getElem (by omega)]
  have hWD : W1.heap[D]? = some (.deferred (some [])) := by
    rw [hW1h, Array.getElem?_push_lt (by simp; omega)]
    simp [hDd]
  have hWl : W1.heap[l]? = some (.loop (rec .ready none)) := by
    rw [hW1h, hll, hDd, show w.heap.size + 1 = (w.heap.push (Obj.deferred (some []))).size by simp]; exact Array.getElem?_push_size
  have hS1 : Same w W1 := ⟨by rw [← hW1]; rfl, by rw [← hW1]; rfl, by rw [← hW1]; rfl, by rw [hW1h]; simp; omega⟩
  let Fs : HL := fun k => if k = D then some (.deferred (some [])) else F k
  have hFs : FLe F Fs := fun k o hk => by
    show (if k = D then _ else F k) = _
    rw [if_neg (fun e => by rw [e, hFD D (Nat.le_refl _)] at hk; cases hk)]
    exact hk
  have hFsD : Fs D = some (.deferred (some [])) := by show (if D = D then _ else _) = _; rw [if_pos rfl]
  have hFsl : Fs l = none := by show (if l = D then _ else F l) = _; rw [if_neg (by omega)]; exact hFD l (by omega)
  have hGs : Gr M F M Fs := ⟨hFs, FLe.refl M, fun _ _ h => .inl h⟩
  have hlM : M l = none := hMn l (hFD l (by omega))
  have H1 : Holds ρ (preHp h r nx fl k st) M (updH Fs l (.loop (rec .ready none))) W1 := by
    have hob : ∀ m b, owns ρ (preHp h r nx fl k st) m b → b < D ∧ F b = none := fun m b hm => ⟨by rw [hDd]; exact owns_lt H hm, H.out m b hm⟩
    refine ⟨fun m e hme => (H.ent m e hme).keep (fun _ _ h => h) rfl (FLe.refl M) fun b base cap ho hr => hlo b (hob m b ⟨e, base, cap, hme, ho, hr⟩).1, H.sep, fun m b hm => ?_, fun k o hk => ?_, fun k o hk => ?_, H.dom⟩
    · obtain ⟨q2, q3⟩ := hob m b hm
      rw [updH_ne _ _ (by omega)]
      show (if b = D then _ else F b) = _
      rw [if_neg (by omega)]
      exact q3
    · by_cases e : k = l
      · subst e; rw [updH_same] at hk; rw [hWl]; exact hk
      · rw [updH_ne _ _ e] at hk
        replace hk : (if k = D then some (.deferred (some [])) else F k) = some o := hk
        by_cases e2 : k = D
        · rw [if_pos e2] at hk; rw [e2, hWD]; exact hk
        · rw [if_neg e2] at hk
          have := H.frm k o hk
          rw [hlo k (by rw [hDd]; exact (Array.getElem?_eq_some_iff.1 this).1)]
          exact this
    · have hf := H.sub k o hk
      rw [updH_ne _ _ (fun e => by rw [e, hFD l (by omega)] at hf; cases hf)]
      exact hFs k o hf
  refine ⟨l, [coll D], W1, { target := .fn (.func 45) #[p7, p8], args := #[.func (.yield l) #[] #[]] }, W1, 45, #[.func (.yield l) #[] #[], p7, p8], W1, ?_, ?_, ?_, ?_, (fun hh => by cases hh), ?_⟩
  · rw [← hW1, hrec, hll, hDd]; exact run_enterLoop_outer _ _ _ _ _
  · simp only [resolve, hfv]
    simp [go_sem]
  · intro _ _; trivial
  · have hb : Tryd.f45.body.isNone = false := by rw [body45]; rfl
    have hcf : ∀ z, (callFunc 45 z).run Tryd.prog W1 = .ok (.enter 45 z) W1 := by
      intro z
      simp only [callFunc, Sem.run_bind, run_program, Result.andThen_ok, at45.1, at45.2, hb, Bool.false_eq_true, if_false]
      rfl
    simp [invoke, hcf]
  · refine (call45 (n := n) (tmps := a.tmps) hrec hl hFsl hlM (updH_same ..) (Ext.refl _ _) H1 ((Gr.refl M Fs).upd hFsl _) hS1 hD26 h7 h8).mono ?_
    rintro e W2 ⟨⟨v, rfl⟩, hfin⟩
    have post : ∀ (ex : Ex) (q : Nat) (ρ1 : Nat → Vc.Loc) (F1 : HL) (o o' : Obj) (e : Exit), (e = match ex with | .normal => .normal | .exit id => .exit id | .ret => .ret) → KR M h r nx fl k st ex tm26 (rHp h r nx fl k st q) M →
        JE l o ρ M Fs w a.tmps.toList h r nx fl k st q ρ1 F1 W2 → CPost (KR M h r nx fl k st) 3 ρ M F w a.defers e { a with defers := [coll D] ++ a.defers } (W2.putObj l o') := fun ex q ρ1 F1 o o' e he hK ⟨hF1, hE1, HH, hG1, hSW, hD1⟩ => by
      refine ⟨ex, tm26, ρ1, rHp h r nx fl k st q, M, updH F1 l o', he, hK, by show 3 ≤ 10; omega, hE1, HH.upd hF1 hlM o', hGs.trans (hG1.upd hFsl o'), hSW.put l o', hD1, [D], rfl, by simp, fun D' hD' => ?_⟩
      obtain rfl : D' = D := by simpa using hD'
      refine ⟨?_, hFD _ (Nat.le_refl _), hMn _ (hFD _ (Nat.le_refl _))⟩
      rw [updH_ne _ _ (by omega)]
      exact hG1.fr _ _ hFsD
    rcases hfin with ⟨ρ2, F2, hj⟩ | ⟨q, ρ2, F2, h0, hq, hst, hj⟩
    · have hrun := run_endLoop (P := Tryd.prog) (hj.2.2.1.frm l _ hj.1) (by rw [hrec]; simp)
      exact ⟨_, _, hrun, by rw [hrec]; exact post .normal _ ρ2 F2 _ _ _ rfl ⟨rfl, rfl, _, rfl, Nat.le_refl _, .inl ⟨rfl, rfl⟩⟩ hj⟩
    · have hrun := run_endLoop (P := Tryd.prog) (hj.2.2.1.frm l _ hj.1) (by rw [hrec]; simp)
      refine ⟨_, _, hrun, ?_⟩
      rw [hrec]
      exact wpIn_exit (post (.exit 0) q ρ2 F2 _ _ _ rfl ⟨rfl, rfl, q, rfl, hq, .inr ⟨rfl, by omega, hst⟩⟩ hj)
end Go.Proofs.YthomcgclkbmnkaaDoor
