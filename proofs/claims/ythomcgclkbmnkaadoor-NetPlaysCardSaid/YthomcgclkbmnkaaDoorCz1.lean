/-
  each: its contract.
-/
import Derived.Test.YthomcgclkbmnkaaDoorCz
namespace Go.Proofs.YthomcgclkbmnkaaDoor
open Go Go.Vc
set_option maxRecDepth 100000
set_option linter.unusedSimpArgs false
set_option linter.unusedVariables false
set_option maxHeartbeats 4000000
set_option linter.constructorNameAsVariable false
def KE (M : HL) (h r nx : Int) (fl : List Fl) (k st : Int) (ex : Ex) (tm : List SV) (hp : List Ent) (M' : HL) : Prop :=
  ex = .ret ∧ M' = M ∧ tm[8]? = some (.ptr 5 0 0 0) ∧ ∃ rest, hp = [.cells 69 [.v (.int .i64 h), .v (.int .i64 r), .v (.int .i64 nx), .slc 1 12 0 fl.length], .row true 44 fck (fl.map frow), .row true 64 fck ((ofC fl k).map frow),
      .cells 58 [.slc 2 12 0 (ofC fl k).length], .cells 3 [.v (.int .i64 st)], .cells 4 [.v (.bool true)]] ++ rest
theorem code26_wp {n : Nat} {ρ : Nat → Vc.Loc} {M F : HL} {w : World} {a : Act} {h r nx : Int} {fl : List Fl} {k st : Int} (hl : fl.length ≤ 2000) (H : Holds ρ (eHp h r nx fl k) M F w) (hD : DenL ρ (tmS (ofC fl k).length k st) a.tmps.toList) :
    code26.wpIn (Wd none) (n + 2) Tryd.prog (CPost (KE M h r nx fl k st) 3 ρ M F w a.defers) a w := by
  rw [code26_eq]
  have hv := pre26 M h r nx fl k st
  have hc1 := cc26.1
  have hc2 := cc26.2.1
  have hc3 := cc26.2.2.1
  have hct := cc26.2.2.2.2.2
  rw [← hc1, ← hc2, ← hc3] at hv
  refine wpIn_seq (wpIn_mono (snd26 p1c none (n + 2) 3 _ _ M _ (.inl rfl) ga26.1 (Nat.le_refl _) hv ρ F w a H hD) fun e a1 w1 hc => ?_)
  obtain ⟨ex1, tm1, ρ1, hp1, M1, F1, e1, ⟨rfl, hv2⟩, e3, e4, e5, e6, e7, e8, e9⟩ := hc
  subst e1
  refine wpIn_seq (wpIn_mono (snd26 p2c none (n + 2) 3 _ _ M1 _ (.inl rfl) ga26.2.1 e3 hv2 ρ1 F1 w1 a1 e5 e8) fun e a2 w2 hc => ?_)
  obtain ⟨ex2, tm2, ρ2, hp2, M2, F2, f1, ⟨rfl, hv3⟩, f3, f4, f5, f6, f7, f8, f9⟩ := hc
  subst f1
  refine wpIn_seq (wpIn_seq (wpIn_mono (snd26 p3c none (n + 2) 3 _ _ M2 _ (.inl rfl) ga26.2.2.1 f3 hv3 ρ2 F2 w2 a2 f5 f8) fun e a3 w3 hc => ?_))
  obtain ⟨ex3, tm3, ρ3, hp3, M3, F3, g1, ⟨rfl, rfl, rfl, hFg⟩, g3, g4, g5, g6, g7, g8, g9⟩ := hc
  subst g1
  refine wpIn_block (wpIn_mono (range26 (n := n) hl g5 (hFg.den g8)) fun e a4 w4 hc => ?_)
  obtain ⟨ex4, tm4, ρ4, hp4, M4, F4, i1, ⟨rfl, rfl, q, rfl, hq, hex⟩, i3, i4, i5, i6, i7, i8, i9⟩ := hc
  have hq2 : q = (ofC fl k).length ∨ 0 < st ∧ (q : Int) = st := hex.imp (fun h => h.2) fun h => h.2
  have hvt := tail26 M4 h r nx fl k st q hl hq2 hq
  rw [← hct] at hvt
  have fin := snd26 tc none (n + 2) 3 _ _ M4 _ (.inl rfl) ga26.2.2.2.2.2.1 i3 hvt ρ4 F4 w4 a4 i5 i8
  have key : tc.wpIn (Wd none) (n + 2) Tryd.prog (CPost (KE M4 h r nx fl k st) 3 ρ M4 F w a.defers) a4 w4 := wpIn_mono fin fun e a5 w5 hc => by
    obtain ⟨ex, tm5, ρ5, hp5, M5, F5, j1, j2, j3, j4, j5, j6, j7, j8, j9⟩ := hc
    exact ⟨ex, tm5, ρ5, hp5, M5, F5, j1, j2, j3, (((e4.trans f4).trans g4).trans i4).trans j4, j5, (((e6.trans f6).trans g6).trans i6).trans j6, (((e7.trans f7).trans g7).trans i7).trans j7, j8,
      (((e9.trans f9 e6.fr f6).trans g9 (e6.trans f6).fr g6).trans i9 ((e6.trans f6).trans g6).fr i6).trans j9 (((e6.trans f6).trans g6).trans i6).fr j6⟩
  rcases hex with ⟨rfl, _⟩ | ⟨rfl, _⟩
  · subst i1
    exact key
  · subst i1
    exact key
theorem sget_get : ∀ {tm : List SV} {n : Nat} {x : SV}, tm[n]? = some x → sget tm n = x
  | [], _, _, h => by simp at h
  | _ :: _, 0, _, h => by simp at h; simp [sget, h]
  | _ :: r, n + 1, _, h => by simp only [sget]; exact sget_get (tm := r) (by simpa using h)
def eachT : Vc.Trans := fun args hp M K => ∃ (h r nx : Int) (fl : List Fl) (k st : Int), args = [.ptr 0 0 0 0, .v (.int .i64 k), .slc 2 12 0 (ofC fl k).length, .v (.int .i64 st)] ∧ hp = eHp h r nx fl k ∧ fl.length ≤ 2000 ∧
  ∀ rest, K (.v (.bool true)) ([.cells 69 [.v (.int .i64 h), .v (.int .i64 r), .v (.int .i64 nx), .slc 1 12 0 fl.length], .row true 44 fck (fl.map frow), .row true 64 fck ((ofC fl k).map frow),
      .cells 58 [.slc 2 12 0 (ofC fl k).length], .cells 3 [.v (.int .i64 st)], .cells 4 [.v (.bool true)]] ++ rest) M
theorem eachT_ok : TOK Tryd.prog 26 eachT := by
  refine ⟨⟨_, at26.1, by rw [body26]; rfl, at26.2⟩, fun args hp M K hT ρ F w vs H hD => ?_⟩
  obtain ⟨h, r, nx, fl, k, st, rfl, rfl, hl, hK⟩ := hT
  refine (callsIn_wide (n := 2)).1 (callsIn_of_wp_marks (F := Wd none) at26.1 body26 trivial ?_ rfl)
  have hD' := padN_den Tryd.f26.ntmps hD
  have htm : (vs.toArray ++ Array.replicate (Tryd.f26.ntmps - vs.toArray.size) undef).toList = vs ++ List.replicate (Tryd.f26.ntmps - vs.length) undef := by simp
  rw [← htm] at hD'
  generalize hT0 : vs.toArray ++ Array.replicate (Tryd.f26.ntmps - vs.toArray.size) undef = T0 at hD' ⊢
  refine wpIn_mono (code26_wp (n := 0) (a := { tmps := T0, defers := [] }) hl H hD') fun e a' w' hc => ?_
  obtain ⟨ex, tm', ρ', hp', M', F', e1, ⟨rfl, rfl, h8, rest, rfl⟩, e3, e4, e5, e6, e7, e8, ds, e9, e10, e11⟩ := hc
  subst e1
  rw [List.append_nil] at e9
  have hr : vRes (Tryd.f26.results.toList.map (cres Tryd.prog)) tm' ([.cells 69 [.v (.int .i64 h), .v (.int .i64 r), .v (.int .i64 nx), .slc 1 12 0 fl.length], .row true 44 fck (fl.map frow), .row true 64 fck ((ofC fl k).map frow),
      .cells 58 [.slc 2 12 0 (ofC fl k).length], .cells 3 [.v (.int .i64 st)], .cells 4 [.v (.bool true)]] ++ rest) M' (fun v => K v ([.cells 69 [.v (.int .i64 h), .v (.int .i64 r), .v (.int .i64 nx), .slc 1 12 0 fl.length], .row true 44 fck (fl.map frow), .row true 64 fck ((ofC fl k).map frow),
      .cells 58 [.slc 2 12 0 (ofC fl k).length], .cells 3 [.v (.int .i64 st)], .cells 4 [.v (.bool true)]] ++ rest) M') := by
    rw [show Tryd.f26.results.toList.map (cres Tryd.prog) = [.cell 8 none] by kernel_rfl]
    have hk := hK rest
    unfold vRes
    simp only [vResL, sget_get h8]
    conv => whnf
    exact hk
  show LeavesInM (Wd none) 2 Tryd.prog Tryd.f26 a'.tmps _ a'.defers .returning w'
  rw [e9]
  exact leaves_marks hr e3 e4 e8 ds F' w' e5 e6 e7 e10 e11
theorem each_ok : SOK Tryd.prog 26 eachS := by
  refine TOK.weaken (TOK.out eachT_ok) fun args hp M K hh => ?_
  obtain ⟨h', r, nx, fl, k, st, rfl, rfl, h1, h2⟩ := hh
  refine ⟨h', r, nx, fl, k, st, rfl, rfl, h1, fun rest => ?_⟩
  refine ⟨[0, 1, 2], .v (.bool true), netHp true h' r nx fl ++ [.row true 64 fck ((ofC fl k).map frow)], ?_⟩
  repeat ((conv => whnf); (first | refine Cnd.yes ?_ | refine Cnd.no ?_ | refine And.intro rfl ?_ | refine And.intro (by omega) ?_ | (refine And.intro ?_ ?_; focus (simp only [IntKind.wrap_i64, IntKind.wrap_u64, IntKind.wrap_u32]; omega)) | (refine And.intro ?_ ?_; focus (simp only [zl1, zl2, zl3, zl4, zl5, zl6, zl7, zl8, zl9] <;> omega)) | refine Alt.std ?_))
  conv => whnf
  exact h2
end Go.Proofs.YthomcgclkbmnkaaDoor
