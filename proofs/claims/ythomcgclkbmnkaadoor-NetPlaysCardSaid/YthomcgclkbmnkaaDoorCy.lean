/-
  each and Each's closure, put together: the closure, called.
-/
import Derived.Test.YthomcgclkbmnkaaDoorCx
namespace Go.Vc
theorem vcOps_soundD {P : Program} {Γ : Nat → Option Trans} (hG : GOK P Γ) {ops : Array Oper} {d0 : List Deferred} (k0 : Nat) : ∀ (l : List Oper) (tm : List SV) (hp : List Ent) (M : HL) (K : List SV → List Ent → HL → Prop),
    (∀ o ∈ l, ∀ j want, o.guard = some (j, want) → ((ops[j]?).bind (·.dst)).isSome = true) → k0 ≤ hp.length → vcOps Γ (l.map (cpo P ops)) tm hp M K →
    ∀ (ρ : Nat → Loc) (F : HL) (w : World) (a : Act) (Q : Exit → Act → World → Prop), Holds ρ hp M F w → DenL ρ tm a.tmps.toList → a.defers = d0 →
    (∀ a' w', CPost (fun e tm hp M => e = .normal ∧ K tm hp M) k0 ρ M F w d0 .normal a' w' → a'.defers = d0 → Q .normal a' w') → wpList P ops Q l a w
  | [], tm, hp, M, K, _, hk, h, ρ, F, w, a, Q, H, hD, hd, hQ => by
    change K tm hp M at h
    exact hQ _ _ ⟨.normal, tm, ρ, hp, M, F, rfl, ⟨rfl, h⟩, hk, Ext.refl _ _, H, Gr.refl M F, Same.refl w, hD, .of_eq hd⟩ hd
  | o :: l, tm, hp, M, K, hgs, hk, h, ρ, F, w, a, Q, H, hD, hd, hQ => by
    change gate (cpo P ops o).guard tm (fun tm => vcOp Γ (cpo P ops o).op tm hp M fun v hp' M' => putS (cpo P ops o).dst v tm fun tm' => vcOps Γ (l.map (cpo P ops)) tm' hp' M' K) (fun tm => putS (cpo P ops o).dst (.v undef) tm fun tm' => vcOps Γ (l.map (cpo P ops)) tm' hp M K) at h
    have hpd : ∀ d v, (a.put d v).defers = d0 := fun d v => by cases d <;> exact hd
    obtain ⟨tm1, hD1, hor⟩ := gate_spec (o := o) (ops := ops) h hD (hgs o (by simp))
    unfold wpList
    rcases hor with ⟨hw, h1⟩ | ⟨hw, h1⟩
    · rw [if_pos hw]
      refine .inl (vcOp_sound hG H hD1 h1 _ _ fun v w' hpost => ?_)
      obtain ⟨sv, ρ', hp', M', F', h2, hl, he, H', hF, hS, hv⟩ := hpost
      have hle := H.le he
      obtain ⟨tm2, h3, hD2⟩ := putS_den h2 (hD1.mono hle) hv
      refine vcOps_soundD hG k0 l tm2 hp' M' K (fun o' ho' => hgs o' (by simp [ho'])) (by omega) h3 ρ' F' w' _ Q H' hD2 (hpd _ _) fun a' w'' hc hdd => hQ _ _ ?_ hdd
      obtain ⟨ex, tm', ρ2, hp2, M2, F2, e1, e2, e3, e4, e5, e6, e7, e8, e9⟩ := hc
      exact ⟨ex, tm', ρ2, hp2, M2, F2, e1, e2, e3, (he.mono hk).trans e4, e5, hF.trans e6, hS.trans e7, e8, e9.le hF.fr⟩
    · rw [if_neg (by rw [hw]; simp)]
      obtain ⟨tm2, h3, hD2⟩ := putS_den h1 hD1 (show Den ρ (.v undef) undef from rfl)
      exact vcOps_soundD hG k0 l tm2 hp M K (fun o' ho' => hgs o' (by simp [ho'])) hk h3 ρ F w _ Q H hD2 (hpd _ _) hQ

theorem regN {P : Program} {Γ : Nat → Option Trans} (hG : GOK P Γ) {n id k0 : Nat} {ops : Array Oper} {tm : List SV} {hp : List Ent} {M : HL} {K : List SV → List Ent → HL → Prop} (hg1 : guardsOK ops = true) (hg2 : noDefer ops = true) (hk : k0 ≤ hp.length)
    (h : vcOps Γ (ops.toList.map (cpo P ops)) tm hp M K) {ρ : Nat → Loc} {F : HL} {w : World} {a : Act} (H : Holds ρ hp M F w) (hD : DenL ρ tm a.tmps.toList) :
    (Code.region id ops false).wpIn (Wd none) n P (fun e a' w' => e = .normal ∧ a'.defers = a.defers ∧ ∃ tm' ρ' hp' M' F', K tm' hp' M' ∧ k0 ≤ hp'.length ∧ Ext k0 ρ ρ' ∧ Holds ρ' hp' M' F' w' ∧ Gr M F M' F' ∧ Same w w' ∧ DenL ρ' tm' a'.tmps.toList) a w := by
  refine wpIn_region_list (list_in (fun ⟨_, _, h⟩ => by cases h.1) _ (noDefer_spec hg2) _ _ (vcOps_soundD (d0 := a.defers) hG k0 ops.toList tm hp M K (guards_spec hg1) hk h ρ F w a _ H hD rfl fun a' w' hc hdd => ?_))
  obtain ⟨ex, tm', ρ2, hp2, M2, F2, e1, ⟨rfl, e2⟩, e3, e4, e5, e6, e7, e8, _⟩ := hc
  exact ⟨rfl, hdd, tm', ρ2, hp2, M2, F2, e2, e3, e4, e5, e6, e7, e8⟩
end Go.Vc
namespace Go.Proofs.YthomcgclkbmnkaaDoor
open Go Go.Vc
set_option maxRecDepth 100000
set_option linter.unusedSimpArgs false
set_option linter.unusedVariables false
set_option maxHeartbeats 4000000
set_option linter.constructorNameAsVariable false
noncomputable def idA : Nat := match aC with | .region i _ _ => i | _ => 0
noncomputable def idB : Nat := match bC with | .region i _ _ => i | _ => 0
noncomputable def idC : Nat := match cC with | .region i _ _ => i | _ => 0
noncomputable def idE : Nat := match eC with | .region i _ _ => i | _ => 0
theorem regs45 : aC = .region idA opsA false ∧ bC = .region idB opsB false ∧ cC = .region idC opsC false ∧ eC = .region idE opsE false := by refine ⟨?_, ?_, ?_, ?_⟩ <;> kernel_rfl
theorem gs45 : guardsOK opsA = true ∧ noDefer opsA = true ∧ guardsOK opsB = true ∧ noDefer opsB = true ∧ guardsOK opsC = true ∧ noDefer opsC = true ∧ guardsOK opsE = true ∧ noDefer opsE = true := by
  refine ⟨?_, ?_, ?_, ?_, ?_, ?_, ?_, ?_⟩ <;> kernel_rfl
def lsA : List PO := match rA with | .ops _ l _ => l | _ => []
def lsB : List PO := match rB with | .ops _ l _ => l | _ => []
def lsC : List PO := match rC with | .ops _ l _ => l | _ => []
def lsE : List PO := match rE with | .ops _ l _ => l | _ => []
theorem ls45 : opsA.toList.map (cpo Tryd.prog opsA) = lsA ∧ opsB.toList.map (cpo Tryd.prog opsB) = lsB ∧ opsC.toList.map (cpo Tryd.prog opsC) = lsC ∧ opsE.toList.map (cpo Tryd.prog opsE) = lsE := by
  refine ⟨?_, ?_, ?_, ?_⟩ <;> kernel_rfl
theorem va45 (M : HL) (h r nx : Int) (fl : List Fl) (k st : Int) (l : Nat) (hl : fl.length ≤ 2000) :
    vcOps GY lsA (tmA l) (preHp h r nx fl k st) M fun tm1 hp1 M1 => Ex.normal = Ex.normal ∧ M1 = M ∧ hp1 = rHp h r nx fl k st 0 ∧ Fg tm1 (tmL l fl.length 0) := a45 M h r nx fl k st l hl
theorem vb45 (M : HL) (hp : List Ent) (l n i : Nat) : vcOps GY lsB (tmL l n i) hp M fun tm1 hp1 M1 => Ex.normal = Ex.normal ∧ M1 = M ∧ hp1 = hp ∧ tm1[10]? = some (.v (.bool (decide ((i : Int) < n)))) ∧ Fg tm1 (tmL l n i) := b45 M hp l n i
theorem vc45 (M : HL) (h r nx : Int) (fl : List Fl) (k st : Int) (l q i : Nat) (hi : i < fl.length) :
    vcOps GY lsC (tmL l fl.length i) (rHp h r nx fl k st q) M fun tm1 hp1 M1 => Ex.normal = Ex.normal ∧ M1 = M ∧ hp1 = rHp h r nx fl k st q ++ [.cells 44 (fsv (fl.getD i default))] ∧ Fg tm1 (tmC l fl.length i) := c45 M h r nx fl k st l q i hi
theorem ve45 (M : HL) (hp : List Ent) (l n i : Nat) (hi : i ≤ 2000) : vcOps GY lsE (tmL l n i) hp M fun tm1 hp1 M1 => Ex.normal = Ex.normal ∧ M1 = M ∧ hp1 = hp ∧ Fg tm1 (tmL l n (i + 1)) := e45 M hp l n i hi
theorem ofC_next (fl : List Fl) {i : Nat} (hi : i < fl.length) (k : Int) : (ofC (fl.take (i + 1)) k).length = (ofC (fl.take i) k).length + if classN (fl.getD i default).2.kind = k then 1 else 0 := by
  rw [ofC_take fl hi]
  split <;> simp
theorem xfg (l n i : Nat) (b : Bool) : Fg (tmX l n i b) (tmL l n i) := by
  repeat ((conv => whnf); (first | exact trivial | refine And.intro (.inl rfl) ?_ | refine And.intro (.inr rfl) ?_))
section
variable {l n : Nat} {rec : LoopState → Option Code → Loop} {fn : FuncId} {tmps : Array Value} {D : Nat} {ρ : Nat → Vc.Loc} {M Fs : HL} {w : World} {h r nx : Int} {fl : List Fl} {k st : Int}
theorem call45 (hrec : rec = fun st pe => { state := st, pending := pe, fn, tmps, params := #[14], assign := xc, body := yc, defers := D }) (hl : fl.length ≤ 2000) (hFsl : Fs l = none) (hlM : M l = none)
    {ρ1 : Nat → Vc.Loc} {F1 : HL} {W : World} (hF1 : F1 l = some (.loop (rec .ready none))) (hE1 : Ext 3 ρ ρ1) (HH : Holds ρ1 (preHp h r nx fl k st) M F1 W) (hG1 : Gr M Fs M F1) (hS1 : Same w W) (hD1 : DenL ρ1 tm26 tmps.toList)
    {p7 p8 : Value} (h7 : Den ρ1 (.ptr 7 0 0 0) p7) (h8 : Den ρ1 (.ptr 8 0 0 0) p8) :
    CallsIn (Wd none) (n + 1) Tryd.prog 45 #[.func (.yield l) #[] #[], p7, p8] W fun e W' => (∃ v, e = .returned v) ∧ ((∃ ρ2 F2, JE l (.loop (rec .ready none)) ρ M Fs w tmps.toList h r nx fl k st (ofC fl k).length ρ2 F2 W') ∨
      ∃ q ρ2 F2, 0 < q ∧ q ≤ (ofC fl k).length ∧ ((q : Nat) : Int) = st ∧ JE l (.loop (rec .done (some (.exit 0)))) ρ M Fs w tmps.toList h r nx fl k st q ρ2 F2 W') := by
  generalize hR : (fun W' => (∃ ρ2 F2, JE l (.loop (rec .ready none)) ρ M Fs w tmps.toList h r nx fl k st (ofC fl k).length ρ2 F2 W') ∨
      ∃ q ρ2 F2, 0 < q ∧ q ≤ (ofC fl k).length ∧ ((q : Nat) : Int) = st ∧ JE l (.loop (rec .done (some (.exit 0)))) ρ M Fs w tmps.toList h r nx fl k st q ρ2 F2 W') = R
  have hRR : ∀ W', R W' = ((∃ ρ2 F2, JE l (.loop (rec .ready none)) ρ M Fs w tmps.toList h r nx fl k st (ofC fl k).length ρ2 F2 W') ∨
      ∃ q ρ2 F2, 0 < q ∧ q ≤ (ofC fl k).length ∧ ((q : Nat) : Int) = st ∧ JE l (.loop (rec .done (some (.exit 0)))) ρ M Fs w tmps.toList h r nx fl k st q ρ2 F2 W') := fun W' => by rw [← hR]
  have fin : ∀ (a : Act) (W : World), a.defers = [] → R W → a.defers = [] ∧ ∃ v, (results Tryd.f45 a.tmps).run Tryd.prog W = .ok v W ∧ ((∃ u, Ending.returned v = .returned u) ∧ R W) := fun a W hd h => by
    refine ⟨hd, .tuple #[], ?_, ⟨_, rfl⟩, h⟩
    simp [results, show Tryd.f45.results = #[] from rfl]
  simp only [← hRR]
  refine callsIn_of_wp at45.1 body45 trivial ?_ rfl
  rw [code45_eq]
  rw [show Tryd.f45.ntmps = 26 from rfl]
  have hD0 : DenL ρ1 (tmA l) (#[Value.func (.yield l) #[] #[], p7, p8] ++ Array.replicate (26 - #[Value.func (.yield l) #[] #[], p7, p8].size) undef).toList := by
    have e : (#[Value.func (.yield l) #[] #[], p7, p8] ++ Array.replicate (26 - #[Value.func (.yield l) #[] #[], p7, p8].size) undef).toList = [Value.func (.yield l) #[] #[], p7, p8] ++ List.replicate 23 undef := by simp
    rw [e]
    refine ⟨⟨[], [], rfl, trivial, trivial⟩, h7, h8, ?_⟩
    simp [List.replicate, DenL, Den]
  generalize hT0 : (#[Value.func (.yield l) #[] #[], p7, p8] ++ Array.replicate (26 - #[Value.func (.yield l) #[] #[], p7, p8].size) undef) = T0 at hD0 ⊢
  have g1 : ∀ a W, a.defers = [] → R W → bodyPost Tryd.prog Tryd.f45 (fun e W' => (∃ v, e = Ending.returned v) ∧ R W') .normal a W := fin
  have g2 : ∀ a W, a.defers = [] → R W → bodyPost Tryd.prog Tryd.f45 (fun e W' => (∃ v, e = Ending.returned v) ∧ R W') .ret a W := fin
  have g3 : ∀ c a W, bodyPost Tryd.prog Tryd.f45 (fun e W' => (∃ v, e = Ending.returned v) ∧ R W') (.panic c) a W → False := fun c a W h => by
    obtain ⟨_, ⟨v, hv⟩, _⟩ := h
    cases hv
  have g4 : ∀ a W, bodyPost Tryd.prog Tryd.f45 (fun e W' => (∃ v, e = Ending.returned v) ∧ R W') .outgrown a W → False := fun a W h => by
    obtain ⟨⟨v, hv⟩, _⟩ := h
    cases hv
  generalize hQ0 : bodyPost Tryd.prog Tryd.f45 (fun e W' => (∃ v, e = Ending.returned v) ∧ R W') = Q0 at g1 g2 g3 g4
  clear hQ0 fin
  refine wpIn_seq ?_
  rw [regs45.1]
  have hvA := va45 M h r nx fl k st l hl
  rw [← ls45.1] at hvA
  refine wpIn_mono (regN GY_ok (k0 := 9) gs45.1 gs45.2.1 (Nat.le_refl _) hvA HH hD0) fun e a1 W1 hc => ?_
  obtain ⟨rfl, qd, tm1, ρ2, hp2, M2, F2, ⟨_, rfl, rfl, hFg⟩, _, hE2, H2, hG2, hS2, hDt⟩ := hc
  refine wpIn_block (wpIn_loopN (fun m a W => ∃ (i q : Nat) (ρ3 : Nat → Vc.Loc) (F3 : HL), m = fl.length - i ∧ i ≤ fl.length ∧ q = (ofC (fl.take i) k).length ∧ JE l (.loop (rec .ready none)) ρ M2 Fs w tmps.toList h r nx fl k st q ρ3 F3 W ∧ DenL ρ3 (tmL l fl.length i) a.tmps.toList ∧ a.defers = [])
    (fun m a W hI => ?_) (n := fl.length) ⟨0, 0, ρ2, F2, rfl, Nat.zero_le _, rfl, ⟨hG2.fr l _ hF1, hE1.trans (hE2.mono (by omega)), H2, hG1.trans hG2, hS1.trans hS2, hD1.mono (HH.le hE2)⟩, hFg.den hDt, qd⟩)
  obtain ⟨i, q, ρ3, F3, rfl, hi, hq, ⟨j1, j2, j3, j4, j5, j6⟩, hDl, hd⟩ := hI
  refine wpIn_seq ?_
  rw [regs45.2.1]
  have hvB := vb45 M2 (rHp h r nx fl k st q) l fl.length i
  rw [← ls45.2.1] at hvB
  refine wpIn_mono (regN GY_ok (k0 := 10) gs45.2.2.1 gs45.2.2.2.1 (Nat.le_refl _) hvB j3 hDl) fun e a2 W2 hc => ?_
  obtain ⟨rfl, qd2, tm2, ρ4, hp4, M4, F4, ⟨_, rfl, rfl, h10, hFg2⟩, _, hE4, H4, hG4, hS4, hDt2⟩ := hc
  have k1 := hG4.fr l _ j1
  have k2 : Ext 3 ρ ρ4 := j2.trans (hE4.mono (by omega))
  have k4 := j4.trans hG4
  have k5 := j5.trans hS4
  have k6 : DenL ρ4 tm26 tmps.toList := j6.mono (j3.le hE4)
  obtain ⟨v10, e10, d10⟩ := hDt2.get h10
  simp only [Den] at d10
  subst d10
  have hev : a2.eval (.tmp 10) = .bool (decide ((i : Int) < fl.length)) := eval_t e10 (.tmp 10) rfl
  refine wpIn_seq ?_
  by_cases hlt : i < fl.length
  · refine wpIn_cond_true (by rw [hev]; congr 1; exact decide_eq_true (by omega)) (wpIn_skip ?_)
    refine wpIn_seq (wpIn_block (wpIn_seq ?_))
    rw [regs45.2.2.1]
    have hvC := vc45 M4 h r nx fl k st l q i hlt
    rw [← ls45.2.2.1] at hvC
    refine wpIn_mono (regN GY_ok (k0 := 10) gs45.2.2.2.2.1 gs45.2.2.2.2.2.1 (Nat.le_refl _) hvC H4 (hFg2.den hDt2)) fun e a3 W3 hc => ?_
    obtain ⟨rfl, qd3, tm3, ρ5, hp5, M5, F5, ⟨_, rfl, rfl, hFg3⟩, _, hE5, H5, hG5, hS5, hDt3⟩ := hc
    refine wpIn_seq (regD26 hrec hl hFsl hlM hlt hq (hG5.fr l _ k1) (k2.trans (hE5.mono (by omega))) H5 (k4.trans hG5) (k5.trans hS5) (k6.mono (H4.le hE5)) (hFg3.den hDt3) ?_ ?_ ?_ ?_ ?_)
    · exact fun ⟨a, w, h⟩ => g4 a w h
    · exact fun c a w h => g3 c a w h
    · intro hk ρ6 F6 a4 W4 hj hD4 hd4
      obtain ⟨v24, e24, d24⟩ := hD4.get (n := 24) (x := .v (.bool false)) rfl
      simp only [Den] at d24
      subst d24
      refine wpIn_cond_false (eval_t e24 (.tmp 24) rfl) (wpIn_skip ?_)
      show eC.wpIn _ _ _ _ _ _
      rw [regs45.2.2.2]
      have hvE := ve45 M5 (rHp h r nx fl k st q) l fl.length i (by omega)
      rw [← ls45.2.2.2] at hvE
      refine wpIn_mono (regN GY_ok (k0 := 10) gs45.2.2.2.2.2.2.1 gs45.2.2.2.2.2.2.2 (Nat.le_refl _) hvE hj.2.2.1 ((xfg l fl.length i false).den hD4)) fun e a5 W5 hc => ?_
      obtain ⟨rfl, qd5, tm5, ρ7, hp7, M7, F7, ⟨_, rfl, rfl, hFg5⟩, _, hE7, H7, hG7, hS7, hDt7⟩ := hc
      exact ⟨fl.length - (i + 1), by omega, i + 1, q, ρ7, F7, rfl, hlt, by rw [ofC_next fl hlt, if_neg hk, hq]; rfl, ⟨hG7.fr l _ hj.1, hj.2.1.trans (hE7.mono (by omega)), H7, hj.2.2.2.1.trans hG7, hj.2.2.2.2.1.trans hS7, hj.2.2.2.2.2.mono (hj.2.2.1.le hE7)⟩, hFg5.den hDt7, qd5.trans (hd4.trans (qd3.trans (qd2.trans hd)))⟩
    · intro hk ρ6 F6 a4 W4 hj hD4 hd4
      obtain ⟨v24, e24, d24⟩ := hD4.get (n := 24) (x := .v (.bool false)) rfl
      simp only [Den] at d24
      subst d24
      refine wpIn_cond_false (eval_t e24 (.tmp 24) rfl) (wpIn_skip ?_)
      show eC.wpIn _ _ _ _ _ _
      rw [regs45.2.2.2]
      have hvE := ve45 M5 (rHp h r nx fl k st (q + 1)) l fl.length i (by omega)
      rw [← ls45.2.2.2] at hvE
      refine wpIn_mono (regN GY_ok (k0 := 10) gs45.2.2.2.2.2.2.1 gs45.2.2.2.2.2.2.2 (Nat.le_refl _) hvE hj.2.2.1 ((xfg l fl.length i false).den hD4)) fun e a5 W5 hc => ?_
      obtain ⟨rfl, qd5, tm5, ρ7, hp7, M7, F7, ⟨_, rfl, rfl, hFg5⟩, _, hE7, H7, hG7, hS7, hDt7⟩ := hc
      exact ⟨fl.length - (i + 1), by omega, i + 1, (q + 1), ρ7, F7, rfl, hlt, by rw [ofC_next fl hlt, if_pos hk, hq], ⟨hG7.fr l _ hj.1, hj.2.1.trans (hE7.mono (by omega)), H7, hj.2.2.2.1.trans hG7, hj.2.2.2.2.1.trans hS7, hj.2.2.2.2.2.mono (hj.2.2.1.le hE7)⟩, hFg5.den hDt7, qd5.trans (hd4.trans (qd3.trans (qd2.trans hd)))⟩
    · intro hk hst ρ6 F6 a4 W4 hj hD4 hd4
      obtain ⟨v24, e24, d24⟩ := hD4.get (n := 24) (x := .v (.bool true)) rfl
      simp only [Den] at d24
      subst d24
      have hltq := (ofC_get fl hlt hk).1
      refine wpIn_cond_true (eval_t e24 (.tmp 24) rfl) (wpIn_ret ?_)
      exact g2 a4 W4 (hd4.trans (qd3.trans (qd2.trans hd))) ((hRR W4).mpr (.inr ⟨q + 1, ρ6, F6, by omega, by omega, hst, hj⟩))
  · refine wpIn_cond_false (by rw [hev]; congr 1; exact decide_eq_false (by omega)) (wpIn_exit ?_)
    obtain rfl : i = fl.length := by omega
    rw [List.take_length] at hq
    subst hq
    exact g1 a2 W2 (qd2.trans hd) ((hRR W2).mpr (.inl ⟨ρ4, F4, k1, k2, H4, k4, k5, k6⟩))
end
end Go.Proofs.YthomcgclkbmnkaaDoor
