/-
  each: its round and its tail, and the pieces of Each's closure, on the heap that both share.
-/
import Derived.Test.YthomcgclkbmnkaaDoorCq
namespace Go.Proofs.YthomcgclkbmnkaaDoor
open Go Go.Vc
set_option maxRecDepth 100000
set_option linter.unusedSimpArgs false
set_option linter.unusedVariables false
set_option maxHeartbeats 4000000
noncomputable def specsY : Nat → Option Vc.Trans := tget [(13, frameT allS), (14, frameT classS), (18, frameT samemsgS)]
noncomputable def GY : Nat → Option Vc.Trans := tabG specsY (tget tab) 5
theorem GY_ok : GOK Tryd.prog GY := tabG_ok (GOK.cons (frame_ok all_ok) (GOK.cons (frame_ok class_ok) (GOK.cons (frame_ok samemsg_ok) .nil))) tab_ok 5
def x26 : PCode := match pf26.code with | .seq _ (.seq _ (.seq (.seq _ (.block _ (.rangef _ _ _ x _))) _)) => x | _ => .skip
def y26 : PCode := match pf26.code with | .seq _ (.seq _ (.seq (.seq _ (.block _ (.rangef _ _ _ _ y))) _)) => y | _ => .skip
def t26 : PCode := match pf26.code with | .seq _ (.seq _ (.seq _ t)) => t | _ => .skip
/-- A flight as a value, and as the cells of a box. -/
def fsv (f : Fl) : List SV := [.v (.int .i64 f.1), .v (.int .i64 f.2.kind), .v (.int .i64 f.2.line), .v (.int .i64 f.2.fr), .v (.int .i64 f.2.to), .v (.int .u32 f.2.d0), .v (.int .u32 f.2.d1), .v (.int .u32 f.2.d2), .v (.int .u32 f.2.d3), .v (.bool f.2.has), .v (.bool f.2.dirty), .v (.bool f.2.alone)]
/-- The heap between two rounds: q flights of the class have come. -/
def rHp (h r nx : Int) (fl : List Fl) (k st : Int) (q : Nat) : List Ent := [.cells 69 [.v (.int .i64 h), .v (.int .i64 r), .v (.int .i64 nx), .slc 1 12 0 fl.length], .row true 44 fck (fl.map frow), .row true 64 fck ((ofC fl k).map frow),
  .cells 58 [.slc 2 12 0 (ofC fl k).length], .cells 3 [.v (.int .i64 st)], .cells 4 [.v (.bool false)], .cells 3 [.v (.int .i64 q)], .cells 23 [.ptr 0 0 0 0], .cells 3 [.v (.int .i64 k)], .row true 44 fck (fl.map frow)]
def tm26 : List SV := tmk 58 0 [(0, .ptr 0 0 0 0), (6, .ptr 3 0 0 0), (7, .ptr 4 0 0 0), (8, .ptr 5 0 0 0), (9, .ptr 6 0 0 0)]
theorem round26 (M : HL) (h r nx : Int) (fl : List Fl) (k st : Int) (q : Nat) (hl : fl.length ≤ 2000) (hq : q < (ofC fl k).length) :
    vc GY 11 x26 ((tm26).set 14 (.agg (fsv ((ofC fl k).getD q default)))) (rHp h r nx fl k st q ++ [.cells 44 (fsv ((ofC fl k).getD q default))]) M fun ex tm1 hp1 M1 => match ex with
      | .normal => vc GY 11 y26 tm1 hp1 M1 fun ex _ hp2 M2 => M2 = M ∧ hp2 = rHp h r nx fl k st (q + 1) ++ [.cells 44 (fsv ((ofC fl k).getD q default)), .cells 44 (fsv ((ofC fl k).getD q default))] ∧ (ex = .normal ∧ ((q + 1 : Nat) : Int) ≠ st ∨ ex = .exit 0 ∧ ((q + 1 : Nat) : Int) = st)
      | _ => False := by
  have hol := ofC_len fl k
  have hc := fun j => cell_map frow (ofC fl k) default hq j
  generalize (ofC fl k).getD q default = f at *
  have c0 : toI (cellAt ((ofC fl k).map frow) (0 + (q : Int).toNat) (0 + 0)) = f.1 := by rw [hc]; rfl
  have e1 : IntKind.i64.wrap ((q : Int) + 1) = ((q + 1 : Nat) : Int) := by rw [IntKind.wrap_i64]; omega
  repeat ((conv => whnf); (first | refine Cnd.yes ?_ | refine Cnd.no ?_ | refine And.intro rfl ?_ | refine And.intro (by omega) ?_ | (refine And.intro ?_ ?_; focus (simp only [IntKind.wrap_i64, IntKind.wrap_u64, IntKind.wrap_u32]; omega)) | (refine And.intro ?_ ?_; focus (simp only [zl1, zl2, zl3, zl4, zl5, zl6, zl7, zl8, zl9] <;> omega)) | refine Alt.std ?_ | (refine Cnd.tt ?_ ?_; focus (first | (apply decide_eq_true; omega) | (simp only [zq1, zq2, zq3, zq4, zq5, zq6, zq7, zq8, zq9, zq10, zq11, zq12] <;> omega) | rfl)) | (refine Cnd.ff ?_ ?_; focus (first | (apply decide_eq_false; omega) | (simp only [zq1, zq2, zq3, zq4, zq5, zq6, zq7, zq8, zq9, zq10, zq11, zq12] <;> omega) | rfl))))
  conv => whnf
  rw [c0]
  repeat ((conv => whnf); (first | refine Cnd.yes ?_ | refine Cnd.no ?_ | refine And.intro rfl ?_ | refine And.intro (by omega) ?_ | (refine And.intro ?_ ?_; focus (simp only [IntKind.wrap_i64, IntKind.wrap_u64, IntKind.wrap_u32]; omega)) | (refine And.intro ?_ ?_; focus (simp only [zl1, zl2, zl3, zl4, zl5, zl6, zl7, zl8, zl9] <;> omega)) | refine Alt.std ?_ | (refine Cnd.tt ?_ ?_; focus (first | (apply decide_eq_true; omega) | (simp only [zq1, zq2, zq3, zq4, zq5, zq6, zq7, zq8, zq9, zq10, zq11, zq12] <;> omega) | rfl)) | (refine Cnd.ff ?_ ?_; focus (first | (apply decide_eq_false; omega) | (simp only [zq1, zq2, zq3, zq4, zq5, zq6, zq7, zq8, zq9, zq10, zq11, zq12] <;> omega) | rfl))))
  conv => whnf
  intro Mr hMr
  repeat ((conv => whnf); (first | refine Cnd.yes ?_ | refine Cnd.no ?_ | refine And.intro rfl ?_ | refine And.intro (by omega) ?_ | (refine And.intro ?_ ?_; focus (simp only [IntKind.wrap_i64, IntKind.wrap_u64, IntKind.wrap_u32]; omega)) | (refine And.intro ?_ ?_; focus (simp only [zl1, zl2, zl3, zl4, zl5, zl6, zl7, zl8, zl9] <;> omega)) | refine Alt.std ?_ | (refine Cnd.tt ?_ ?_; focus (first | (apply decide_eq_true; omega) | (simp only [zq1, zq2, zq3, zq4, zq5, zq6, zq7, zq8, zq9, zq10, zq11, zq12] <;> omega) | rfl)) | (refine Cnd.ff ?_ ?_; focus (first | (apply decide_eq_false; omega) | (simp only [zq1, zq2, zq3, zq4, zq5, zq6, zq7, zq8, zq9, zq10, zq11, zq12] <;> omega) | rfl))))
  conv => whnf
  refine ⟨f.2, by simp only [hc]; rfl, rfl, ?_⟩
  repeat ((conv => whnf); (first | refine Cnd.yes ?_ | refine Cnd.no ?_ | refine And.intro rfl ?_ | refine And.intro (by omega) ?_ | (refine And.intro ?_ ?_; focus (simp only [IntKind.wrap_i64, IntKind.wrap_u64, IntKind.wrap_u32]; omega)) | (refine And.intro ?_ ?_; focus (simp only [zl1, zl2, zl3, zl4, zl5, zl6, zl7, zl8, zl9] <;> omega)) | refine Alt.std ?_ | (refine Cnd.tt ?_ ?_; focus (first | (apply decide_eq_true; omega) | (simp only [zq1, zq2, zq3, zq4, zq5, zq6, zq7, zq8, zq9, zq10, zq11, zq12] <;> omega) | rfl)) | (refine Cnd.ff ?_ ?_; focus (first | (apply decide_eq_false; omega) | (simp only [zq1, zq2, zq3, zq4, zq5, zq6, zq7, zq8, zq9, zq10, zq11, zq12] <;> omega) | rfl))))
  conv => whnf
  rw [e1]
  by_cases hst : ((q + 1 : Nat) : Int) = st
  · repeat ((conv => whnf); (first | refine Cnd.yes ?_ | refine Cnd.no ?_ | refine And.intro rfl ?_ | refine And.intro (by omega) ?_ | (refine And.intro ?_ ?_; focus (simp only [IntKind.wrap_i64, IntKind.wrap_u64, IntKind.wrap_u32]; omega)) | (refine And.intro ?_ ?_; focus (simp only [zl1, zl2, zl3, zl4, zl5, zl6, zl7, zl8, zl9] <;> omega)) | refine Alt.std ?_ | (refine Cnd.tt ?_ ?_; focus (first | (apply decide_eq_true; omega) | (simp only [zq1, zq2, zq3, zq4, zq5, zq6, zq7, zq8, zq9, zq10, zq11, zq12] <;> omega) | rfl)) | (refine Cnd.ff ?_ ?_; focus (first | (apply decide_eq_false; omega) | (simp only [zq1, zq2, zq3, zq4, zq5, zq6, zq7, zq8, zq9, zq10, zq11, zq12] <;> omega) | rfl))))
    conv => whnf
    exact .inr ⟨rfl, hst⟩
  · repeat ((conv => whnf); (first | refine Cnd.yes ?_ | refine Cnd.no ?_ | refine And.intro rfl ?_ | refine And.intro (by omega) ?_ | (refine And.intro ?_ ?_; focus (simp only [IntKind.wrap_i64, IntKind.wrap_u64, IntKind.wrap_u32]; omega)) | (refine And.intro ?_ ?_; focus (simp only [zl1, zl2, zl3, zl4, zl5, zl6, zl7, zl8, zl9] <;> omega)) | refine Alt.std ?_ | (refine Cnd.tt ?_ ?_; focus (first | (apply decide_eq_true; omega) | (simp only [zq1, zq2, zq3, zq4, zq5, zq6, zq7, zq8, zq9, zq10, zq11, zq12] <;> omega) | rfl)) | (refine Cnd.ff ?_ ?_; focus (first | (apply decide_eq_false; omega) | (simp only [zq1, zq2, zq3, zq4, zq5, zq6, zq7, zq8, zq9, zq10, zq11, zq12] <;> omega) | rfl))))
    conv => whnf
    exact .inl ⟨rfl, hst⟩
theorem tail26 (M : HL) (h r nx : Int) (fl : List Fl) (k st : Int) (q : Nat) (hl : fl.length ≤ 2000) (hq : q = (ofC fl k).length ∨ 0 < st ∧ (q : Int) = st) (hq2 : q ≤ (ofC fl k).length) :
    vc GY 3 t26 tm26 (rHp h r nx fl k st q) M fun ex tm1 hp1 M1 => ex = .ret ∧ M1 = M ∧ tm1[8]? = some (.ptr 5 0 0 0) ∧ ∃ rest, hp1 = [.cells 69 [.v (.int .i64 h), .v (.int .i64 r), .v (.int .i64 nx), .slc 1 12 0 fl.length], .row true 44 fck (fl.map frow), .row true 64 fck ((ofC fl k).map frow),
      .cells 58 [.slc 2 12 0 (ofC fl k).length], .cells 3 [.v (.int .i64 st)], .cells 4 [.v (.bool true)]] ++ rest := by
  have hol := ofC_len fl k
  by_cases h1 : q = (ofC fl k).length
  · repeat ((conv => whnf); (first | refine Cnd.yes ?_ | refine Cnd.no ?_ | refine And.intro rfl ?_ | refine And.intro (by omega) ?_ | (refine And.intro ?_ ?_; focus (simp only [IntKind.wrap_i64, IntKind.wrap_u64, IntKind.wrap_u32]; omega)) | (refine And.intro ?_ ?_; focus (simp only [zl1, zl2, zl3, zl4, zl5, zl6, zl7, zl8, zl9] <;> omega)) | refine Alt.std ?_ | (refine Cnd.tt ?_ ?_; focus (first | (apply decide_eq_true; omega) | (simp only [zq1, zq2, zq3, zq4, zq5, zq6, zq7, zq8, zq9, zq10, zq11, zq12] <;> omega) | rfl)) | (refine Cnd.ff ?_ ?_; focus (first | (apply decide_eq_false; omega) | (simp only [zq1, zq2, zq3, zq4, zq5, zq6, zq7, zq8, zq9, zq10, zq11, zq12] <;> omega) | rfl))))
    conv => whnf
    exact ⟨_, rfl⟩
  · obtain ⟨h2, h3⟩ := hq.resolve_left h1
    have hb : ((q : Int) == st) = true := by simp [h3]
    repeat ((conv => whnf); (first | refine Cnd.yes ?_ | refine Cnd.no ?_ | refine And.intro rfl ?_ | refine And.intro (by omega) ?_ | (refine And.intro ?_ ?_; focus (simp only [IntKind.wrap_i64, IntKind.wrap_u64, IntKind.wrap_u32]; omega)) | (refine And.intro ?_ ?_; focus (simp only [zl1, zl2, zl3, zl4, zl5, zl6, zl7, zl8, zl9] <;> omega)) | refine Alt.std ?_ | (refine Cnd.tt ?_ ?_; focus (first | (apply decide_eq_true; omega) | (simp only [zq1, zq2, zq3, zq4, zq5, zq6, zq7, zq8, zq9, zq10, zq11, zq12] <;> omega) | rfl)) | (refine Cnd.ff ?_ ?_; focus (first | (apply decide_eq_false; omega) | (simp only [zq1, zq2, zq3, zq4, zq5, zq6, zq7, zq8, zq9, zq10, zq11, zq12] <;> omega) | rfl))))
    conv => whnf
    exact ⟨_, by rw [hb]; rfl⟩
/-- Some slots forgotten. -/
def Fg : List SV → List SV → Prop
  | [], [] => True
  | x :: r, y :: s => (y = .any ∨ y = x) ∧ Fg r s
  | _, _ => False
theorem Fg.den {ρ : Nat → Vc.Loc} : ∀ {tm tm' : List SV} {vs : List Value}, Fg tm tm' → DenL ρ tm vs → DenL ρ tm' vs
  | [], [], [], _, h => h
  | x :: r, y :: s, v :: vs, h, hd => by
    simp only [DenL] at hd ⊢
    refine ⟨?_, Fg.den h.2 hd.2⟩
    rcases h.1 with e | e
    · rw [e]; trivial
    · rw [e]; exact hd.1
  | [], [], _ :: _, _, h => by simp [DenL] at h
  | _ :: _, _ :: _, [], _, h => by simp [DenL] at h
def rA : PCode := match pf45.code with | .seq a _ => a | _ => .skip
def rB : PCode := match pf45.code with | .seq _ (.block _ (.loop (.seq b _))) => b | _ => .skip
def rC : PCode := match pf45.code with | .seq _ (.block _ (.loop (.seq _ (.seq _ (.seq (.block _ (.seq c _)) _))))) => c | _ => .skip
def rE : PCode := match pf45.code with | .seq _ (.block _ (.loop (.seq _ (.seq _ (.seq _ e))))) => e | _ => .skip
def rD : List PO := match pf45.code with | .seq _ (.block _ (.loop (.seq _ (.seq _ (.seq (.block _ (.seq _ (.seq (.ops _ l _) _))) _))))) => l | _ => []
/-- The plan of what comes ahead of the yield. -/
def dtP : DT := .take 0 [0, 1, 2, 3, 5, 6, 7, 8] (.take 1 [1, 2, 3, 5, 6, 7, 8] (.take 2 [2, 3, 5, 6, 7, 8] (.take 4 [4, 5, 6, 7, 8] (.eff true 3 (.take 5 [5, 6, 7, 8] (.take 6 [6, 7, 8] (.take 7 [7] (.take 8 [8] .done))))))))
theorem dtP_ok : dtOK .any opsP dtP true 9 (Array.replicate 9 false) = true := by kernel_rfl
theorem lP_eq : opsP.toList.map (cpo Tryd.prog opsP) = rD.take 9 := by kernel_rfl
/-- The heap ahead of the copy. -/
def preHp (h r nx : Int) (fl : List Fl) (k st : Int) : List Ent := [.cells 69 [.v (.int .i64 h), .v (.int .i64 r), .v (.int .i64 nx), .slc 1 12 0 fl.length], .row true 44 fck (fl.map frow), .row true 64 fck ((ofC fl k).map frow),
  .cells 58 [.slc 2 12 0 (ofC fl k).length], .cells 3 [.v (.int .i64 st)], .cells 4 [.v (.bool false)], .cells 3 [.v (.int .i64 (0 : Nat))], .cells 23 [.ptr 0 0 0 0], .cells 3 [.v (.int .i64 k)]]
def tmA (l : Nat) : List SV := [.fn (.yield l) [] [], .ptr 7 0 0 0, .ptr 8 0 0 0] ++ List.replicate 23 (.v undef)
def tmL (l : Nat) (n i : Nat) : List SV := tmk 26 0 [(0, .fn (.yield l) [] []), (2, .ptr 8 0 0 0), (7, .slc 9 12 0 n), (8, .v (.int .i64 n)), (9, .v (.int .i64 i))]
theorem a45 (M : HL) (h r nx : Int) (fl : List Fl) (k st : Int) (l : Nat) (hl : fl.length ≤ 2000) :
    vc GY 3 rA (tmA l) (preHp h r nx fl k st) M fun ex tm1 hp1 M1 => ex = .normal ∧ M1 = M ∧ hp1 = rHp h r nx fl k st 0 ∧ Fg tm1 (tmL l fl.length 0) := by
  repeat ((conv => whnf); (first | refine Cnd.yes ?_ | refine Cnd.no ?_ | refine And.intro rfl ?_ | refine And.intro (by omega) ?_ | (refine And.intro ?_ ?_; focus (simp only [IntKind.wrap_i64, IntKind.wrap_u64, IntKind.wrap_u32]; omega)) | (refine And.intro ?_ ?_; focus (simp only [zl1, zl2, zl3, zl4, zl5, zl6, zl7, zl8, zl9] <;> omega)) | refine Alt.std ?_ | (refine Cnd.tt ?_ ?_; focus (first | (apply decide_eq_true; omega) | (simp only [zq1, zq2, zq3, zq4, zq5, zq6, zq7, zq8, zq9, zq10, zq11, zq12] <;> omega) | rfl)) | (refine Cnd.ff ?_ ?_; focus (first | (apply decide_eq_false; omega) | (simp only [zq1, zq2, zq3, zq4, zq5, zq6, zq7, zq8, zq9, zq10, zq11, zq12] <;> omega) | rfl))))
  conv => whnf
  refine ⟨h, r, nx, fl, rfl, rfl, by omega, ?_⟩
  repeat ((conv => whnf); (first | refine Cnd.yes ?_ | refine Cnd.no ?_ | refine And.intro rfl ?_ | refine And.intro (by omega) ?_ | (refine And.intro ?_ ?_; focus (simp only [IntKind.wrap_i64, IntKind.wrap_u64, IntKind.wrap_u32]; omega)) | (refine And.intro ?_ ?_; focus (simp only [zl1, zl2, zl3, zl4, zl5, zl6, zl7, zl8, zl9] <;> omega)) | refine Alt.std ?_ | (refine Cnd.tt ?_ ?_; focus (first | (apply decide_eq_true; omega) | (simp only [zq1, zq2, zq3, zq4, zq5, zq6, zq7, zq8, zq9, zq10, zq11, zq12] <;> omega) | rfl)) | (refine Cnd.ff ?_ ?_; focus (first | (apply decide_eq_false; omega) | (simp only [zq1, zq2, zq3, zq4, zq5, zq6, zq7, zq8, zq9, zq10, zq11, zq12] <;> omega) | rfl))))
  conv => whnf
  repeat ((conv => whnf); (first | exact trivial | refine And.intro (.inl rfl) ?_ | refine And.intro (.inr rfl) ?_))
theorem b45 (M : HL) (hp : List Ent) (l n i : Nat) :
    vc GY 3 rB (tmL l n i) hp M fun ex tm1 hp1 M1 => ex = .normal ∧ M1 = M ∧ hp1 = hp ∧ tm1[10]? = some (.v (.bool (decide ((i : Int) < n)))) ∧ Fg tm1 (tmL l n i) := by
  repeat ((conv => whnf); (first | refine Cnd.yes ?_ | refine Cnd.no ?_ | refine And.intro rfl ?_ | refine And.intro (by omega) ?_ | (refine And.intro ?_ ?_; focus (simp only [IntKind.wrap_i64, IntKind.wrap_u64, IntKind.wrap_u32]; omega)) | (refine And.intro ?_ ?_; focus (simp only [zl1, zl2, zl3, zl4, zl5, zl6, zl7, zl8, zl9] <;> omega)) | refine Alt.std ?_ | (refine Cnd.tt ?_ ?_; focus (first | (apply decide_eq_true; omega) | (simp only [zq1, zq2, zq3, zq4, zq5, zq6, zq7, zq8, zq9, zq10, zq11, zq12] <;> omega) | rfl)) | (refine Cnd.ff ?_ ?_; focus (first | (apply decide_eq_false; omega) | (simp only [zq1, zq2, zq3, zq4, zq5, zq6, zq7, zq8, zq9, zq10, zq11, zq12] <;> omega) | rfl))))
  conv => whnf
  repeat ((conv => whnf); (first | exact trivial | refine And.intro (.inl rfl) ?_ | refine And.intro (.inr rfl) ?_))
def tmC (l n i : Nat) : List SV := tmk 26 0 [(0, .fn (.yield l) [] []), (2, .ptr 8 0 0 0), (5, .ptr 10 0 0 0), (7, .slc 9 12 0 n), (8, .v (.int .i64 n)), (9, .v (.int .i64 i))]
theorem c45 (M : HL) (h r nx : Int) (fl : List Fl) (k st : Int) (l q i : Nat) (hi : i < fl.length) :
    vc GY 10 rC (tmL l fl.length i) (rHp h r nx fl k st q) M fun ex tm1 hp1 M1 => ex = .normal ∧ M1 = M ∧ hp1 = rHp h r nx fl k st q ++ [.cells 44 (fsv (fl.getD i default))] ∧ Fg tm1 (tmC l fl.length i) := by
  have hc := fun j => cell_map frow fl default hi j
  generalize fl.getD i default = f at *
  obtain ⟨id, kind, line, xf, xt, d0, d1, d2, d3, b0, b1, b2⟩ := f
  have f0 : toI (cellAt (List.map frow fl) (0 + (i : Int).toNat) (0)) = id := by rw [hc]; rfl
  have f1 : toI (cellAt (List.map frow fl) (0 + (i : Int).toNat) (0 + 1)) = kind := by rw [hc]; rfl
  have f2 : toI (cellAt (List.map frow fl) (0 + (i : Int).toNat) (0 + 1 + 1)) = line := by rw [hc]; rfl
  have f3 : toI (cellAt (List.map frow fl) (0 + (i : Int).toNat) (0 + 1 + 1 + 1)) = xf := by rw [hc]; rfl
  have f4 : toI (cellAt (List.map frow fl) (0 + (i : Int).toNat) (0 + 1 + 1 + 1 + 1)) = xt := by rw [hc]; rfl
  have f5 : toI (cellAt (List.map frow fl) (0 + (i : Int).toNat) (0 + 1 + 1 + 1 + 1 + 1)) = d0 := by rw [hc]; rfl
  have f6 : toI (cellAt (List.map frow fl) (0 + (i : Int).toNat) (0 + 1 + 1 + 1 + 1 + 1 + 1)) = d1 := by rw [hc]; rfl
  have f7 : toI (cellAt (List.map frow fl) (0 + (i : Int).toNat) (0 + 1 + 1 + 1 + 1 + 1 + 1 + 1)) = d2 := by rw [hc]; rfl
  have f8 : toI (cellAt (List.map frow fl) (0 + (i : Int).toNat) (0 + 1 + 1 + 1 + 1 + 1 + 1 + 1 + 1)) = d3 := by rw [hc]; rfl
  have f9 : toB (cellAt (List.map frow fl) (0 + (i : Int).toNat) (0 + 1 + 1 + 1 + 1 + 1 + 1 + 1 + 1 + 1)) = b0 := by rw [hc]; rfl
  have f10 : toB (cellAt (List.map frow fl) (0 + (i : Int).toNat) (0 + 1 + 1 + 1 + 1 + 1 + 1 + 1 + 1 + 1 + 1)) = b1 := by rw [hc]; rfl
  have f11 : toB (cellAt (List.map frow fl) (0 + (i : Int).toNat) (0 + 1 + 1 + 1 + 1 + 1 + 1 + 1 + 1 + 1 + 1 + 1)) = b2 := by rw [hc]; rfl
  repeat ((conv => whnf); (first | refine Cnd.yes ?_ | refine Cnd.no ?_ | refine And.intro rfl ?_ | refine And.intro (by omega) ?_ | (refine And.intro ?_ ?_; focus (simp only [IntKind.wrap_i64, IntKind.wrap_u64, IntKind.wrap_u32]; omega)) | (refine And.intro ?_ ?_; focus (simp only [zl1, zl2, zl3, zl4, zl5, zl6, zl7, zl8, zl9] <;> omega)) | refine Alt.std ?_ | (refine Cnd.tt ?_ ?_; focus (first | (apply decide_eq_true; omega) | (simp only [zq1, zq2, zq3, zq4, zq5, zq6, zq7, zq8, zq9, zq10, zq11, zq12] <;> omega) | rfl)) | (refine Cnd.ff ?_ ?_; focus (first | (apply decide_eq_false; omega) | (simp only [zq1, zq2, zq3, zq4, zq5, zq6, zq7, zq8, zq9, zq10, zq11, zq12] <;> omega) | rfl))))
  conv => whnf
  rw [f0, f1, f2, f3, f4, f5, f6, f7, f8, f9, f10, f11]
  refine ⟨rfl, ?_⟩
  repeat ((conv => whnf); (first | exact trivial | refine And.intro (.inl rfl) ?_ | refine And.intro (.inr rfl) ?_))
theorem e45 (M : HL) (hp : List Ent) (l n i : Nat) (hi : i ≤ 2000) :
    vc GY 3 rE (tmL l n i) hp M fun ex tm1 hp1 M1 => ex = .normal ∧ M1 = M ∧ hp1 = hp ∧ Fg tm1 (tmL l n (i + 1)) := by
  have e1 : IntKind.i64.wrap ((i : Int) + 1) = ((i + 1 : Nat) : Int) := by rw [IntKind.wrap_i64]; omega
  repeat ((conv => whnf); (first | refine Cnd.yes ?_ | refine Cnd.no ?_ | refine And.intro rfl ?_ | refine And.intro (by omega) ?_ | (refine And.intro ?_ ?_; focus (simp only [IntKind.wrap_i64, IntKind.wrap_u64, IntKind.wrap_u32]; omega)) | (refine And.intro ?_ ?_; focus (simp only [zl1, zl2, zl3, zl4, zl5, zl6, zl7, zl8, zl9] <;> omega)) | refine Alt.std ?_ | (refine Cnd.tt ?_ ?_; focus (first | (apply decide_eq_true; omega) | (simp only [zq1, zq2, zq3, zq4, zq5, zq6, zq7, zq8, zq9, zq10, zq11, zq12] <;> omega) | rfl)) | (refine Cnd.ff ?_ ?_; focus (first | (apply decide_eq_false; omega) | (simp only [zq1, zq2, zq3, zq4, zq5, zq6, zq7, zq8, zq9, zq10, zq11, zq12] <;> omega) | rfl))))
  conv => whnf
  rw [e1]
  repeat ((conv => whnf); (first | exact trivial | refine And.intro (.inl rfl) ?_ | refine And.intro (.inr rfl) ?_))
theorem d45 (M : HL) (h r nx : Int) (fl : List Fl) (k st : Int) (l q i : Nat) (f : Fl) :
    vDT GY (rD.take 9) dtP [] (tmC l fl.length i) (rHp h r nx fl k st q ++ [.cells 44 (fsv f)]) M fun tm1 hp1 M1 => M1 = M ∧ hp1 = rHp h r nx fl k st q ++ [.cells 44 (fsv f)] ∧ Fg tm1 (tmL l fl.length i) ∧
      tm1[19]? = some (.v (.bool (classN f.2.kind == k))) ∧ ((classN f.2.kind == k) = true → tm1[20]? = some (.fn (.yield l) [] []) ∧ tm1[21]? = some (.agg (fsv f))) := by
  repeat ((conv => whnf); (first | refine Cnd.yes ?_ | refine Cnd.no ?_ | refine And.intro rfl ?_ | refine And.intro (by omega) ?_ | (refine And.intro ?_ ?_; focus (simp only [IntKind.wrap_i64, IntKind.wrap_u64, IntKind.wrap_u32]; omega)) | (refine And.intro ?_ ?_; focus (simp only [zl1, zl2, zl3, zl4, zl5, zl6, zl7, zl8, zl9] <;> omega)) | refine Alt.std ?_ | (refine Cnd.tt ?_ ?_; focus (first | (apply decide_eq_true; omega) | (simp only [zq1, zq2, zq3, zq4, zq5, zq6, zq7, zq8, zq9, zq10, zq11, zq12] <;> omega) | rfl)) | (refine Cnd.ff ?_ ?_; focus (first | (apply decide_eq_false; omega) | (simp only [zq1, zq2, zq3, zq4, zq5, zq6, zq7, zq8, zq9, zq10, zq11, zq12] <;> omega) | rfl))))
  conv => whnf
  intro Mr hMr
  repeat ((conv => whnf); (first | refine Cnd.yes ?_ | refine Cnd.no ?_ | refine And.intro rfl ?_ | refine And.intro (by omega) ?_ | (refine And.intro ?_ ?_; focus (simp only [IntKind.wrap_i64, IntKind.wrap_u64, IntKind.wrap_u32]; omega)) | (refine And.intro ?_ ?_; focus (simp only [zl1, zl2, zl3, zl4, zl5, zl6, zl7, zl8, zl9] <;> omega)) | refine Alt.std ?_ | (refine Cnd.tt ?_ ?_; focus (first | (apply decide_eq_true; omega) | (simp only [zq1, zq2, zq3, zq4, zq5, zq6, zq7, zq8, zq9, zq10, zq11, zq12] <;> omega) | rfl)) | (refine Cnd.ff ?_ ?_; focus (first | (apply decide_eq_false; omega) | (simp only [zq1, zq2, zq3, zq4, zq5, zq6, zq7, zq8, zq9, zq10, zq11, zq12] <;> omega) | rfl))))
  conv => whnf
  refine ⟨f.2.kind, rfl, ?_⟩
  by_cases hk : classN f.2.kind = k
  · have hb : (classN f.2.kind == k) = true := by simp [hk]
    repeat ((conv => whnf); (first | refine Cnd.yes ?_ | refine Cnd.no ?_ | refine And.intro rfl ?_ | refine And.intro (by omega) ?_ | (refine And.intro ?_ ?_; focus (simp only [IntKind.wrap_i64, IntKind.wrap_u64, IntKind.wrap_u32]; omega)) | (refine And.intro ?_ ?_; focus (simp only [zl1, zl2, zl3, zl4, zl5, zl6, zl7, zl8, zl9] <;> omega)) | refine Alt.std ?_ | (refine Cnd.tt ?_ ?_; focus (first | (apply decide_eq_true; omega) | (simp only [zq1, zq2, zq3, zq4, zq5, zq6, zq7, zq8, zq9, zq10, zq11, zq12] <;> omega) | rfl)) | (refine Cnd.ff ?_ ?_; focus (first | (apply decide_eq_false; omega) | (simp only [zq1, zq2, zq3, zq4, zq5, zq6, zq7, zq8, zq9, zq10, zq11, zq12] <;> omega) | rfl))))
    conv => whnf
    refine ⟨?_, by rw [hb]; rfl, fun _ => ⟨rfl, rfl⟩⟩
    repeat ((conv => whnf); (first | exact trivial | refine And.intro (.inl rfl) ?_ | refine And.intro (.inr rfl) ?_))
  · have hb : (classN f.2.kind == k) = false := by simp [hk]
    repeat ((conv => whnf); (first | refine Cnd.yes ?_ | refine Cnd.no ?_ | refine And.intro rfl ?_ | refine And.intro (by omega) ?_ | (refine And.intro ?_ ?_; focus (simp only [IntKind.wrap_i64, IntKind.wrap_u64, IntKind.wrap_u32]; omega)) | (refine And.intro ?_ ?_; focus (simp only [zl1, zl2, zl3, zl4, zl5, zl6, zl7, zl8, zl9] <;> omega)) | refine Alt.std ?_ | (refine Cnd.tt ?_ ?_; focus (first | (apply decide_eq_true; omega) | (simp only [zq1, zq2, zq3, zq4, zq5, zq6, zq7, zq8, zq9, zq10, zq11, zq12] <;> omega) | rfl)) | (refine Cnd.ff ?_ ?_; focus (first | (apply decide_eq_false; omega) | (simp only [zq1, zq2, zq3, zq4, zq5, zq6, zq7, zq8, zq9, zq10, zq11, zq12] <;> omega) | rfl))))
    conv => whnf
    refine ⟨?_, by rw [hb]; rfl, fun h => by rw [hb] at h; cases h⟩
    repeat ((conv => whnf); (first | exact trivial | refine And.intro (.inl rfl) ?_ | refine And.intro (.inr rfl) ?_))
end Go.Proofs.YthomcgclkbmnkaaDoor
