/-
  each and Each's closure, put together: the range.
-/
import Derived.Test.YthomcgclkbmnkaaDoorCu
namespace Go.Proofs.YthomcgclkbmnkaaDoor
open Go Go.Vc
set_option maxRecDepth 100000
set_option linter.unusedSimpArgs false
set_option linter.unusedVariables false
set_option maxHeartbeats 4000000
theorem ofC_get (fl : List Fl) {i : Nat} (hi : i < fl.length) {k : Int} (hk : classN (fl.getD i default).2.kind = k) : (ofC (fl.take i) k).length < (ofC fl k).length ∧ (ofC fl k).getD (ofC (fl.take i) k).length default = fl.getD i default := by
  have h1 : fl = fl.take i ++ fl.getD i default :: fl.drop (i + 1) := by
    conv => lhs; rw [← List.take_append_drop i fl, List.drop_eq_getElem_cons hi]
    simp [List.getD, hi]
  have h2 : ofC fl k = ofC (fl.take i) k ++ fl.getD i default :: ofC (fl.drop (i + 1)) k := by
    conv => lhs; rw [h1]
    unfold ofC
    rw [List.filter_append, List.filter_cons_of_pos (by simp only [beq_iff_eq]; exact hk)]
  generalize fl.getD i default = f at *
  rw [h2]
  constructor
  · rw [List.length_append, List.length_cons]; omega
  · simp [List.getD]
/-- What stands between two rounds. -/
def JE (l : Nat) (lp : Obj) (ρ : Nat → Vc.Loc) (M Fs : HL) (w : World) (tmps : List Value) (h r nx : Int) (fl : List Fl) (k st : Int) (q : Nat) (ρ1 : Nat → Vc.Loc) (F1 : HL) (W : World) : Prop :=
  F1 l = some lp ∧ Ext 3 ρ ρ1 ∧ Holds ρ1 (rHp h r nx fl k st q) M F1 W ∧ Gr M Fs M F1 ∧ Same w W ∧ DenL ρ1 tm26 tmps
theorem drop_two {M F : HL} {ρ : Nat → Vc.Loc} {W : World} {h r nx : Int} {fl : List Fl} {k st : Int} {q : Nat} {c1 c2 : List SV} {tmps : List Value} (H : Holds ρ (rHp h r nx fl k st q ++ [.cells 44 c1, .cells 44 c2]) M F W) (hD : DenL ρ tm26 tmps) :
    ∃ ρ1, Ext 10 ρ ρ1 ∧ Holds ρ1 (rHp h r nx fl k st q) M F W ∧ DenL ρ1 tm26 tmps := by
  have hw : Wk 10 [0, 1, 2, 3, 4, 5, 6, 7, 8, 9] tm26 (rHp h r nx fl k st q ++ [.cells 44 c1, .cells 44 c2]) tm26 (rHp h r nx fl k st q) True := by
    repeat ((conv => whnf); (first | refine Cnd.yes ?_ | refine Cnd.no ?_ | refine And.intro rfl ?_ | refine And.intro (by omega) ?_ | (refine And.intro ?_ ?_; focus (simp only [IntKind.wrap_i64, IntKind.wrap_u64, IntKind.wrap_u32]; omega)) | (refine And.intro ?_ ?_; focus (simp only [zl1, zl2, zl3, zl4, zl5, zl6, zl7, zl8, zl9] <;> omega)) | refine Alt.std ?_))
    conv => whnf
    trivial
  obtain ⟨_, ρ1, H1, hD1, hE1, _⟩ := Wk_spec hw H hD
  exact ⟨ρ1, hE1, H1, hD1⟩
theorem drop_one {M F : HL} {ρ : Nat → Vc.Loc} {W : World} {h r nx : Int} {fl : List Fl} {k st : Int} {q : Nat} {c1 : List SV} {tmps : List Value} (H : Holds ρ (rHp h r nx fl k st q ++ [.cells 44 c1]) M F W) (hD : DenL ρ tm26 tmps) :
    ∃ ρ1, Ext 10 ρ ρ1 ∧ Holds ρ1 (rHp h r nx fl k st q) M F W ∧ DenL ρ1 tm26 tmps := by
  have hw : Wk 10 [0, 1, 2, 3, 4, 5, 6, 7, 8, 9] tm26 (rHp h r nx fl k st q ++ [.cells 44 c1]) tm26 (rHp h r nx fl k st q) True := by
    repeat ((conv => whnf); (first | refine Cnd.yes ?_ | refine Cnd.no ?_ | refine And.intro rfl ?_ | refine And.intro (by omega) ?_ | (refine And.intro ?_ ?_; focus (simp only [IntKind.wrap_i64, IntKind.wrap_u64, IntKind.wrap_u32]; omega)) | (refine And.intro ?_ ?_; focus (simp only [zl1, zl2, zl3, zl4, zl5, zl6, zl7, zl8, zl9] <;> omega)) | refine Alt.std ?_))
    conv => whnf
    trivial
  obtain ⟨_, ρ1, H1, hD1, hE1, _⟩ := Wk_spec hw H hD
  exact ⟨ρ1, hE1, H1, hD1⟩
/-- A round. -/
theorem yield26 {l n : Nat} {rec : LoopState → Option Code → Loop} {fn : FuncId} {tmps : Array Value} {D : Nat} (hrec : rec = fun st pe => { state := st, pending := pe, fn, tmps, params := #[14], assign := xc, body := yc, defers := D })
    {ρ : Nat → Vc.Loc} {M Fs : HL} {w : World} {h r nx : Int} {fl : List Fl} {k st : Int} {q : Nat} (hl : fl.length ≤ 2000) (hq : q < (ofC fl k).length) (hFsl : Fs l = none) (hlM : M l = none) {ρ1 : Nat → Vc.Loc} {F1 : HL} {W : World}
    (hF1 : F1 l = some (.loop (rec .ready none))) (hE1 : Ext 3 ρ ρ1) (HH : Holds ρ1 (rHp h r nx fl k st q ++ [.cells 44 (fsv ((ofC fl k).getD q default))]) M F1 W) (hG1 : Gr M Fs M F1) (hS1 : Same w W) (hD1 : DenL ρ1 tm26 tmps.toList)
    {y : Value} (hy : Den ρ1 (.agg (fsv ((ofC fl k).getD q default))) y) :
    YieldAt (Wd none) n Tryd.prog l #[y] W fun e W' => ∃ ρ2 F2, Ext 10 ρ1 ρ2 ∧ ((e = .returned (.bool true) ∧ JE l (.loop (rec .ready none)) ρ M Fs w tmps.toList h r nx fl k st (q + 1) ρ2 F2 W') ∨
      (e = .returned (.bool false) ∧ ((q + 1 : Nat) : Int) = st ∧ JE l (.loop (rec .done (some (.exit 0)))) ρ M Fs w tmps.toList h r nx fl k st (q + 1) ρ2 F2 W')) := by
  have hWlr := HH.frm l _ hF1
  have hyl := run_yield (P := Tryd.prog) (args := #[y]) hWlr (by rw [hrec]; rfl)
  have hl0 : (rec .ready none).params = #[14] := by rw [hrec]
  rw [hl0] at hyl
  refine ⟨_, _, _, _, hyl, roundIn_of_wpIn (show (Wd none).fn _ from trivial) ?_⟩
  have hxa : (rec .ready none).assign = xc := by rw [hrec]
  have hyb : (rec .ready none).body = yc := by rw [hrec]
  have hta : (rec .ready none).tmps = tmps := by rw [hrec]
  rw [hxa, hyb, hta]
  have hD3 : DenL ρ1 (tm26.set 14 (.agg (fsv ((ofC fl k).getD q default)))) (((#[14].zip #[y]).foldl (fun t (p, v) => t.setIfInBounds p v) tmps).toList) := by
    have q1 := hD1.set hy 14
    simpa using q1
  have hv := round26 M h r nx fl k st q hl hq
  rw [← cc26.2.2.2.1] at hv
  have hw := snd26 xc (some l) n 11 _ _ M _ (.inr ga26.2.2.2.2.2.2.1) ga26.2.2.2.1 (Nat.le_refl _) hv ρ1 F1 W { tmps := (#[14].zip #[y]).foldl (fun t (p, v) => t.setIfInBounds p v) tmps, defers := [] } HH hD3
  refine wpIn_mono hw fun e a2 W2 hc => ?_
  obtain ⟨ex, tm4, ρ4, hp4, M4, F4, e1, e2, e3, e4, e5, e6, e7, e8, _⟩ := hc
  cases ex with
  | exit id => exact e2.elim
  | ret => exact e2.elim
  | normal =>
  subst e1
  have hM4 : M4 l = none := e6.none hlM hF1
  have hF4 := e6.fr l _ hF1
  refine ⟨W2.putObj l (.loop (rec .busy none)), ?_, ?_⟩
  · have := run_beginRound (P := Tryd.prog) (e5.frm l _ hF4) (by rw [hrec])
    rw [this, hrec]
  have H4 := e5.upd hF4 hM4 (.loop (rec .busy none))
  replace e2 : vc GY 11 y26 tm4 hp4 M4 _ := e2
  rw [← cc26.2.2.2.2.1] at e2
  have hw2 := snd26 yc (some l) n 11 tm4 hp4 M4 _ (.inr ga26.2.2.2.2.2.2.2) ga26.2.2.2.2.1 e3 e2 ρ4 _ _ a2 H4 e8
  refine wpIn_mono hw2 fun e a3 W3 hc => ?_
  obtain ⟨ex, tm5, ρ5, hp5, M5, F5, f1, ⟨rfl, rfl, hex⟩, f3, f4, f5, f6, f7, f8, _⟩ := hc
  have hF5 : F5 l = some (.loop (rec .busy none)) := f6.fr l _ (updH_same ..)
  have hG5 : Gr M5 Fs M5 F5 := ((hG1.trans e6).upd hFsl _).trans f6
  have hx5 : Ext 11 ρ1 ρ5 := e4.trans f4
  have hD5 : DenL ρ5 tm26 tmps.toList := hD1.mono (HH.le hx5)
  have hS5 : Same w W3 := (hS1.trans (e7.put l _)).trans f7
  have hend5 : ∀ (jump : Option Code), (Instr.endRound l jump).run Tryd.prog W3 = .ok (.bool jump.isNone) (W3.putObj l (.loop (rec (if jump.isNone then .ready else .done) jump))) := fun jump => by
    have := run_endRound (P := Tryd.prog) jump (f5.frm l _ hF5)
    rw [this, hrec]
  rcases hex with ⟨rfl, hne⟩ | ⟨rfl, hst⟩
  · subst f1
    obtain ⟨ρ6, hE6, H6, hD6⟩ := drop_two (f5.upd hF5 hlM (.loop (rec .ready none))) hD5
    have hx6 : Ext 10 ρ1 ρ6 := (hx5.mono (by omega)).trans hE6
    exact ⟨_, _, hend5 none, ρ6, _, hx6, .inl ⟨rfl, updH_same .., hE1.trans (hx6.mono (by omega)), H6, hG5.upd hFsl _, hS5.put l _, hD6⟩⟩
  · subst f1
    obtain ⟨ρ6, hE6, H6, hD6⟩ := drop_two (f5.upd hF5 hlM (.loop (rec .done (some (.exit 0))))) hD5
    have hx6 : Ext 10 ρ1 ρ6 := (hx5.mono (by omega)).trans hE6
    exact ⟨_, _, hend5 (some (.exit 0)), ρ6, _, hx6, .inr ⟨rfl, hst, updH_same .., hE1.trans (hx6.mono (by omega)), H6, hG5.upd hFsl _, hS5.put l _, hD6⟩⟩
end Go.Proofs.YthomcgclkbmnkaaDoor
