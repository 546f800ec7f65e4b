/-
  Symbolic execution, part O: functions: their results, their contracts.
-/
import Derived.Test.YthomcgclkbmnkaaDoorVcn
namespace Go.Vc

inductive PR where
  | t (n : Nat) | cell (n : Nat) (s : Option Nat) | bad
structure PFn where
  nt : Nat
  res : List PR
  code : PCode
def cres (P : Program) : ResultVar → PR
  | .tmp t => .t t
  | .cell a t => if (P.underlying t).isSome = true ∧ (P.info? t).isSome = true then .cell a (sizeO P t) else .bad
def cfn (P : Program) (pl : Nat → DT) (fn : Func) (c : Code) : PFn := { nt := fn.ntmps, res := fn.results.toList.map (cres P), code := ccode P pl c }

def dtGet : List (Nat × DT) → Nat → DT
  | [], _ => .done
  | (j, d) :: r, i => match Nat.beq j i with
    | true => d
    | false => dtGet r i

def padN : Nat → List SV → List SV
  | 0, l => l
  | n + 1, [] => .v undef :: padN n []
  | n + 1, x :: l => x :: padN n l
def padK : Nat → List SV → (List SV → Prop) → Prop
  | 0, l, K => K l
  | n + 1, [], K => padK n [] fun l => K (.v undef :: l)
  | n + 1, x :: r, K => padK n r fun l => K (x :: l)
theorem padK_eq : ∀ (n : Nat) (l : List SV) (K : List SV → Prop), padK n l K = K (padN n l)
  | 0, _, _ => by simp [padK, padN]
  | n + 1, [], K => by simp [padK, padN, padK_eq n]
  | n + 1, x :: r, K => by simp [padK, padN, padK_eq n]
def vResL : List PR → List SV → List Ent → HL → (List SV → Prop) → Prop
  | [], _, _, _, K => K []
  | .t n :: r, tm, hp, M, K => force (sget tm n) fun s => vResL r tm hp M fun l => K (s :: l)
  | .cell n s :: r, tm, hp, M, K => vLoad s (sget tm n) hp M fun v => vResL r tm hp M fun l => K (v :: l)
  | .bad :: _, _, _, _, _ => False
def one1 (l : List SV) : SV :=
  match l with
  | [x] => x
  | l => .tup l
def one1K (l : List SV) (K : SV → Prop) : Prop :=
  match l with
  | [x] => K x
  | l => K (.tup l)
theorem one1K_eq (l : List SV) (K : SV → Prop) : one1K l K = K (one1 l) := by
  unfold one1K one1
  split <;> rfl
def vRes (rs : List PR) (tm : List SV) (hp : List Ent) (M : HL) (K : SV → Prop) : Prop := vResL rs tm hp M fun l => one1K l K
/-- A function, by its text. -/
noncomputable def runF (Γ : Nat → Option Trans) (pf : PFn) : Trans := fun args hp M K =>
  padK pf.nt args fun tm => vc Γ (llen hp) pf.code tm hp M fun e tm hp' M' => match e with
    | .normal => vRes pf.res tm hp' M' fun v => K v hp' M'
    | .ret => vRes pf.res tm hp' M' fun v => K v hp' M'
    | .exit _ => False

theorem padN_den {ρ : Nat → Loc} : ∀ (n : Nat) {l : List SV} {vs : List Value}, DenL ρ l vs → DenL ρ (padN n l) (vs ++ List.replicate (n - vs.length) undef)
  | 0, l, vs, h => by simpa [padN] using h
  | n + 1, [], [], _ => by
    simp only [padN, List.length_nil, Nat.sub_zero, List.nil_append, List.replicate_succ, DenL]
    exact ⟨rfl, by simpa using padN_den n (l := []) (vs := []) (by simp [DenL])⟩
  | n + 1, x :: l, v :: vs, h => by
    simp only [DenL] at h
    simp only [padN, List.cons_append, DenL, List.length_cons, Nat.add_sub_add_right]
    exact ⟨h.1, padN_den n h.2⟩
  | _ + 1, [], _ :: _, hd => by simp [DenL] at hd
  | _ + 1, _ :: _, [], hd => by simp [DenL] at hd

theorem sget_den {ρ : Nat → Loc} {tm : List SV} {a : Array Value} (hD : DenL ρ tm a.toList) (n : Nat) : Den ρ (sget tm n) (a.getD n undef) := by
  cases h : tm[n]? with
  | none => rw [sget_none h]; simp [Den]
  | some s =>
    obtain ⟨v, h1, h2⟩ := hD.get h
    rw [sget_some h]
    have : a.getD n undef = v := by
      simp at h1
      simp [h1]
    rw [this]; exact h2

def resM (tmps : Array Value) : ResultVar → Sem Value
  | .tmp t => pure (tmps.getD t undef)
  | .cell a t => do loadVar t (← asAddr (tmps.getD a undef))
theorem results_eq (fn : Func) (tmps : Array Value) : results fn tmps = (do let vs ← fn.results.mapM (resM tmps); pure (if h : vs.size = 1 then vs[0] else .tuple vs)) := by
  have : resM tmps = (fun x => match x with | .tmp t => pure (tmps.getD t undef) | .cell a t => (do loadVar t (← asAddr (tmps.getD a undef)))) := by
    funext x; cases x <;> rfl
  rw [this]
  rfl

theorem vResL_sound {P : Program} {ρ : Nat → Loc} {tm : List SV} {hp : List Ent} {M F : HL} {w : World} {tmps : Array Value} (H : Holds ρ hp M F w) (hD : DenL ρ tm tmps.toList) : ∀ (rs : List ResultVar) (K : List SV → Prop), vResL (rs.map (cres P)) tm hp M K →
    ∃ l vs, K l ∧ DenL ρ l vs ∧ l.length = rs.length ∧ (rs.mapM (resM tmps)).run P w = .ok vs w
  | [], K, h => ⟨[], [], h, by simp [DenL], rfl, by simp⟩
  | .tmp t :: rs, K, h => by
    simp only [List.map_cons, cres, vResL, force_eq] at h
    obtain ⟨l, vs, h1, h2, h3, h4⟩ := vResL_sound H hD rs _ h
    exact ⟨sget tm t :: l, tmps.getD t undef :: vs, h1, by simp only [DenL]; exact ⟨sget_den hD t, h2⟩, by simp [h3], by simp [List.mapM_cons, h4, resM]⟩
  | .cell a t :: rs, K, h => by
    simp only [List.map_cons, cres] at h
    split at h
    case isFalse => simp [vResL] at h
    rename_i hside
    obtain ⟨hu, hi⟩ := hside
    simp only [vResL] at h
    obtain ⟨ad, y, sv, h1, h2, h3, h4⟩ := vLoad_sound h H (sget_den hD a)
    obtain ⟨d, hd⟩ := Option.isSome_iff_exists.1 hu
    obtain ⟨i, hi⟩ := Option.isSome_iff_exists.1 hi
    obtain ⟨l, vs, h5, h6, h7, h8⟩ := vResL_sound H hD rs _ h3
    have hag : (isAgg t).run P w = .ok (isAggT P t) w := by
      cases d <;> simp [isAgg, isAggT, run_underlying hd, hd]
    have hload : (loadVar t ad).run P w = .ok y w := by
      unfold sizeO at h2
      cases hb : isAggT P t with
      | true =>
        simp only [hb, if_true, Finds] at h2
        obtain ⟨cs, rfl, hcl, hcs⟩ := h2
        have hl := run_loadCells_list (P := P) w ad cs hcs
        rw [hcl] at hl
        simp only [szOf, hi, Option.map_some, Option.getD_some] at hl
        simp [loadVar, hag, hb, sizeOf, typeInfo, hi, hl]
      | false =>
        simp only [hb, Bool.false_eq_true, if_false, Finds] at h2
        simp [loadVar, hag, hb, h2]
    refine ⟨sv :: l, y :: vs, h5, by simp only [DenL]; exact ⟨h4, h6⟩, by simp [h7], ?_⟩
    simp [List.mapM_cons, resM, h1, asAddr, hload, h8]

theorem vRes_sound {P : Program} {ρ : Nat → Loc} {tm : List SV} {hp : List Ent} {M F : HL} {w : World} {tmps : Array Value} (H : Holds ρ hp M F w) (hD : DenL ρ tm tmps.toList) (fn : Func) {K : SV → Prop} (h : vRes (fn.results.toList.map (cres P)) tm hp M K) :
    ∃ sv v, K sv ∧ Den ρ sv v ∧ (results fn tmps).run P w = .ok v w := by
  obtain ⟨l, vs, h1, h2, h3, h4⟩ := vResL_sound H hD fn.results.toList _ h
  rw [one1K_eq] at h1
  have hrun : (results fn tmps).run P w = .ok (if h : vs.toArray.size = 1 then vs.toArray[0] else .tuple vs.toArray) w := by
    rw [results_eq, Array.mapM_eq_mapM_toList]
    simp only [Sem.run_bind, Sem.run_map, h4, Result.andThen_ok, Sem.run_pure]
  have hlen := h2.length
  match l, vs, h1, h2, hlen, hrun with
  | [x], [v], h1, h2, _, hrun =>
    simp only [DenL] at h2
    exact ⟨x, v, h1, h2.1, by simpa using hrun⟩
  | [], [], h1, h2, _, hrun => exact ⟨.tup [], _, h1, ⟨[], rfl, h2⟩, by simpa using hrun⟩
  | x :: y :: l, u :: v :: vs, h1, h2, _, hrun => exact ⟨.tup (x :: y :: l), _, h1, ⟨_, rfl, h2⟩, by simpa using hrun⟩
  | [], _ :: _, _, _, hl, _ => simp at hl
  | _ :: _, [], _, _, hl, _ => simp at hl
  | [_], _ :: _ :: _, _, _, hl, _ => simp at hl
  | _ :: _ :: _, [_], _, _, hl, _ => simp at hl

/-- Behind a body: the marks are taken up. -/
theorem leaves_marks {P : Program} {n : Nat} {fn : Func} {tmps : Array Value} {K : SV → List Ent → HL → Prop} {k0 : Nat} {ρ ρ' : Nat → Loc} {hp' : List Ent} {M F M' : HL} {w : World} {tm' : List SV} (h : vRes (fn.results.toList.map (cres P)) tm' hp' M' fun v => K v hp' M')
    (hk : k0 ≤ hp'.length) (hx : Ext k0 ρ ρ') (hD : DenL ρ' tm' tmps.toList) : ∀ (ds : List Nat) (F' : HL) (w' : World), Holds ρ' hp' M' F' w' → Gr M F M' F' → Same w w' → ds.Nodup → (∀ D ∈ ds, F' D = some (.deferred (some [])) ∧ F D = none ∧ M' D = none) →
      LeavesInM (Wd none) n P fn tmps (fun e w'' => ∃ v, e = .returned v ∧ Post K k0 ρ M F w v w'') (ds.map coll) .returning w'
  | [], F', w', H', hG, hS, _, _ => by
    obtain ⟨sv, v, h1, h2, h3⟩ := vRes_sound (P := P) H' hD fn h
    exact ⟨v, h3, v, rfl, sv, ρ', hp', M', F', h1, hk, hx, H', hG, hS, h2⟩
  | D :: ds, F', w', H', hG, hS, hnd, hds => by
    obtain ⟨hF, hF0, hM⟩ := hds D (by simp)
    have hnd' := List.nodup_cons.1 hnd
    have hheap := H'.frm D _ hF
    have hno : ∀ m, ¬ owns ρ' hp' m D := fun m hm => by rw [H'.out m D hm] at hF; cases hF
    refine ⟨by simp, .inl ⟨D, w'.putObj D (.deferred none), rfl, run_takeDeferred hheap, ?_⟩⟩
    have hin : ∀ k o, (if k = D then none else F' k) = some o → k ≠ D ∧ F' k = some o := fun k o hk => by
      by_cases e : k = D
      · rw [if_pos e] at hk; cases hk
      · rw [if_neg e] at hk; exact ⟨e, hk⟩
    refine leaves_marks h hk hx hD ds (fun k => if k = D then none else F' k) _ (H'.put hno (fun k o hk => ?_) (fun k o hk => ?_) (fun m b hb => ?_)) ⟨fun k o hk => ?_, hG.kn, hG.n⟩ ⟨hS.os, hS.tape, hS.output, ?_⟩ hnd'.2 fun D2 h2 => ?_
    · obtain ⟨h1, h2⟩ := hin k o hk
      rw [World.putObj_heap_other h1]
      exact H'.frm k o h2
    · rw [if_neg (fun e => by rw [e, hM] at hk; cases hk)]
      exact H'.sub k o hk
    · split
      · rfl
      · exact H'.out m b hb
    · rw [if_neg (fun e => by rw [e, hF0] at hk; cases hk)]
      exact hG.fr k o hk
    · have := hS.size
      show w.heap.size ≤ (w'.heap.setIfInBounds D _).size
      simpa using this
    · obtain ⟨h3, h4, h5⟩ := hds D2 (by simp [h2])
      refine ⟨?_, h4, h5⟩
      rw [if_neg (fun (e : D2 = D) => hnd'.1 (e ▸ h2))]
      exact h3

/-- A function's text is its contract. -/
theorem runF_ok {P : Program} {Γ : Nat → Option Trans} (hG : GOK P Γ) (hm : P.follows .mixedOrders = true) (pl : Nat → DT) {f : FuncId} {fn : Func} {c : Code} (hf : P.funcs[f]? = some fn) (hb : fn.body = some c) (hn : (fn.name == "runtime.NumGoroutine") = false) (hg : guardsAll pl c = true) (hB : ∀ g s, lookB g (bkOf (pl 999999)) = some s → IsBack P g s) : TOK P f (runF Γ (cfn P pl fn c)) := by
  refine ⟨⟨fn, hf, by simp [hb], hn⟩, fun args hp M K h ρ F w vs H hD => ?_⟩
  refine (callsIn_wide (n := 1)).1 (callsIn_of_wp_marks (F := Wd none) hf hb trivial ?_ rfl)
  have hD' := padN_den fn.ntmps hD
  have htm : (vs.toArray ++ Array.replicate (fn.ntmps - vs.toArray.size) undef).toList = vs ++ List.replicate (fn.ntmps - vs.length) undef := by simp
  rw [← htm] at hD'
  simp only [runF, cfn, llen_eq, padK_eq] at h
  refine wpIn_mono (vc_sound hG hm pl hB c none 1 hp.length _ hp M _ (.inl rfl) hg (Nat.le_refl _) h ρ F w { tmps := vs.toArray ++ Array.replicate (fn.ntmps - vs.toArray.size) undef, defers := [] } H hD') fun e a' w' hc => ?_
  obtain ⟨ex, tm', ρ', hp', M', F', e1, e2, e3, e4, e5, e6, e7, e8, ds, e9, e10, e11⟩ := hc
  rw [List.append_nil] at e9
  have fin : vRes (fn.results.toList.map (cres P)) tm' hp' M' (fun v => K v hp' M') → LeavesInM (Wd none) 1 P fn a'.tmps (fun e w'' => ∃ v, e = .returned v ∧ Post K hp.length ρ M F w v w'') a'.defers .returning w' := fun hr => by
    rw [e9]
    exact leaves_marks hr e3 e4 e8 ds F' w' e5 e6 e7 e10 e11
  cases ex with
  | normal => subst e1; exact fin e2
  | ret => subst e1; exact fin e2
  | exit id => exact e2.elim

/-- The same, from one equation with the program. -/
theorem runF_eq {P : Program} {Γ : Nat → Option Trans} (hG : GOK P Γ) (hm : P.follows .mixedOrders = true) {pl : Nat → DT} {f : FuncId} {fn : Func} {pf : PFn} (hf : P.funcs[f]? = some fn) (hn : (fn.name == "runtime.NumGoroutine") = false)
    (h : (fn.body.map fun c => (cfn P pl fn c, guardsAll pl c)) = some (pf, true)) (h0 : bkOf (pl 999999) = [] := by rfl) : TOK P f (runF Γ pf) := by
  obtain ⟨c, hb, hc⟩ := Option.map_eq_some_iff.1 h
  have h1 : cfn P pl fn c = pf := congrArg Prod.fst hc
  have h2 : guardsAll pl c = true := congrArg Prod.snd hc
  rw [← h1]
  exact runF_ok hG hm pl hf hb hn h2 fun g s hs => by rw [h0] at hs; cases hs
/-- The same, of a function that ranges over slices.Backward. -/
theorem runF_eqB {P : Program} {Γ : Nat → Option Trans} (hG : GOK P Γ) (hm : P.follows .mixedOrders = true) {pl : Nat → DT} {f : FuncId} {fn : Func} {pf : PFn} (hf : P.funcs[f]? = some fn) (hn : (fn.name == "runtime.NumGoroutine") = false)
    (h : (fn.body.map fun c => (cfn P pl fn c, guardsAll pl c)) = some (pf, true)) (hB : ∀ g s, lookB g (bkOf (pl 999999)) = some s → IsBack P g s) : TOK P f (runF Γ pf) := by
  obtain ⟨c, hb, hc⟩ := Option.map_eq_some_iff.1 h
  have h1 : cfn P pl fn c = pf := congrArg Prod.fst hc
  have h2 : guardsAll pl c = true := congrArg Prod.snd hc
  rw [← h1]
  exact runF_ok hG hm pl hf hb hn h2 hB
/-- The closure of slices.Backward, from its text. -/
theorem IsBack.of {P : Program} {g : Nat} {s : Option Nat} {fn : Func} {pl : Nat → DT} {pf : PFn} (hf : P.funcs[g]? = some fn ∧ (fn.name == "runtime.NumGoroutine") = false) (h : (fn.body.map fun c => (cfn P pl fn c, guardsAll pl c)) = some (pf, true)) (he : pf = ⟨19, [], backPC s⟩) : IsBack P g s := by
  obtain ⟨c, hb, hc⟩ := Option.map_eq_some_iff.1 h
  have h1 : cfn P pl fn c = ⟨19, [], backPC s⟩ := (congrArg Prod.fst hc).trans he
  have h2 : guardsAll pl c = true := congrArg Prod.snd hc
  have h3 : fn.results.toList.map (cres P) = [] := congrArg PFn.res h1
  exact ⟨fn, c, pl, hf.1, hb, hf.2, congrArg PFn.nt h1, by simpa using List.map_eq_nil_iff.1 h3, congrArg PFn.code h1, h2⟩
end Go.Vc
