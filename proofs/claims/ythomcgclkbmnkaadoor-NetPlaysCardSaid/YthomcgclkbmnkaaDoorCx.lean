/-
  each and Each's closure, put together: the closure's loop.
-/
import Derived.Test.YthomcgclkbmnkaaDoorCw
namespace Go.Proofs.YthomcgclkbmnkaaDoor
open Go Go.Vc
set_option maxRecDepth 100000
set_option linter.unusedSimpArgs false
set_option linter.unusedVariables false
set_option maxHeartbeats 4000000
theorem nmX (l n i : Nat) (b : Bool) : NmL 10 (tmX l n i b) := by
  repeat ((conv => whnf); (first | exact trivial | refine And.intro trivial ?_ | refine And.intro (show (8 : Nat) < 10 by decide) ?_ | refine And.intro (show (9 : Nat) < 10 by decide) ?_))
section
variable {l n : Nat} {rec : LoopState → Option Code → Loop} {fn : FuncId} {tmps : Array Value} {D : Nat} {ρ : Nat → Vc.Loc} {M Fs : HL} {w : World} {h r nx : Int} {fl : List Fl} {k st : Int}
theorem regD26 (hrec : rec = fun st pe => { state := st, pending := pe, fn, tmps, params := #[14], assign := xc, body := yc, defers := D }) (hl : fl.length ≤ 2000) (hFsl : Fs l = none) (hlM : M l = none)
    {q i : Nat} (hi : i < fl.length) (hq : q = (ofC (fl.take i) k).length) {ρ1 : Nat → Vc.Loc} {F1 : HL} {W : World} {a : Act}
    (hF1 : F1 l = some (.loop (rec .ready none))) (hE1 : Ext 3 ρ ρ1) (HH : Holds ρ1 (rHp h r nx fl k st q ++ [.cells 44 (fsv (fl.getD i default))]) M F1 W) (hG1 : Gr M Fs M F1) (hS1 : Same w W) (hD1 : DenL ρ1 tm26 tmps.toList)
    (hDc : DenL ρ1 (tmC l fl.length i) a.tmps.toList) {Q : Exit → Act → World → Prop} (hQo : ¬ LetsOut Q) (hQp : ∀ c a w, Q (.panic c) a w → False)
    (hN : classN (fl.getD i default).2.kind ≠ k → ∀ ρ2 F2 a2 W2, JE l (.loop (rec .ready none)) ρ M Fs w tmps.toList h r nx fl k st q ρ2 F2 W2 → DenL ρ2 (tmX l fl.length i false) a2.tmps.toList → a2.defers = a.defers → Q .normal a2 W2)
    (hR : classN (fl.getD i default).2.kind = k → ∀ ρ2 F2 a2 W2, JE l (.loop (rec .ready none)) ρ M Fs w tmps.toList h r nx fl k st (q + 1) ρ2 F2 W2 → DenL ρ2 (tmX l fl.length i false) a2.tmps.toList → a2.defers = a.defers → Q .normal a2 W2)
    (hX : classN (fl.getD i default).2.kind = k → ((q + 1 : Nat) : Int) = st → ∀ ρ2 F2 a2 W2, JE l (.loop (rec .done (some (.exit 0)))) ρ M Fs w tmps.toList h r nx fl k st (q + 1) ρ2 F2 W2 → DenL ρ2 (tmX l fl.length i true) a2.tmps.toList → a2.defers = a.defers → Q .normal a2 W2) :
    (Code.region dId opsD true).wpIn (Wd none) (n + 1) Tryd.prog Q a W := by
  refine wpIn_region_any mixed ?_
  rw [sizes45.1]
  have hv := d45b M h r nx fl k st l q i (fl.getD i default)
  rw [← lP_eq] at hv
  refine split_in (tl := [9, 10, 11]) hQo (noDefer_spec ga45.2.2.2.2.2.1) opsP_in 9 _ _ a _ split45 (wpAny_of_T _ _ _ _ ((vDT_sound (d0 := a.defers) (Q := splitQ none (n + 1) Tryd.prog opsD Q [9, 10, 11]) GY_ok ga45.2.2.2.2.2.2 (guards_spec ga45.2.2.2.2.1) (fun c a w h => hQp c a w h) 11 dtP _).1 9 _ dtP_ok [] [] _ _ M (Nat.le_refl _) hv ρ1 F1 _ a (holds_drawn HH) hDc trivial rfl
    (fun tm' ρ3 hp' M' F3 a' w' h1 h2 h3 h4 h5 h6 h7 h8 => ?_)))
  obtain ⟨rfl, rfl, hcl⟩ := h1
  have hS3 : Same w w' := hS1.trans ⟨h6.os, h6.tape, h6.output, h6.size⟩
  have hF3 := h5.fr l _ hF1
  have hD3 : DenL ρ3 tm26 tmps.toList := hD1.mono (HH.le h3)
  have hE3 : Ext 3 ρ ρ3 := hE1.trans (h3.mono (by omega))
  show tailIn none (n + 1) Tryd.prog opsD Q [9, 10, 11] a' w'
  rcases hcl with ⟨hk, hFg⟩ | ⟨hk, hFg⟩
  · obtain ⟨hlt, hget⟩ := ofC_get fl hi hk
    rw [← hq] at hlt hget
    refine tailT h4 (hFg.den h7) fun y hy => ?_
    rw [← hget] at hy h4
    obtain ⟨fn1, tm1, as1, bd1, y1, y2⟩ := yield26 (n := n) hrec hl hlt hFsl hlM hF3 hE3 h4 (hG1.trans h5) hS3 hD3 hy
    refine ⟨fn1, tm1, as1, bd1, y1, y2.mono fun e W' hr => ?_⟩
    obtain ⟨ρ2, F2, hE2, hr⟩ := hr
    rcases hr with ⟨rfl, hj⟩ | ⟨rfl, hst, hj⟩
    · exact ⟨true, rfl, ρ2, _, _, F2, hj.2.2.1, hE2, fun a2 hD2 hd2 => hR hk ρ2 F2 a2 W' hj hD2 (hd2.trans h8)⟩
    · exact ⟨false, rfl, ρ2, _, _, F2, hj.2.2.1, hE2, fun a2 hD2 hd2 => hX hk hst ρ2 F2 a2 W' hj hD2 (hd2.trans h8)⟩
  · refine tailN h4 (hFg.den h7) fun a2 hD2 hd2 => ?_
    obtain ⟨ρ4, hE4, H4, hD4⟩ := drop_one h4 hD3
    exact hN hk ρ4 F3 a2 w' ⟨hF3, hE3.trans (hE4.mono (by omega)), H4, hG1.trans h5, hS3, hD4⟩ ((nmX l fl.length i false).den hE4 hD2) (hd2.trans h8)
end
end Go.Proofs.YthomcgclkbmnkaaDoor
