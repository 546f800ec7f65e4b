/-
  each and Each's closure, put together: the region with the yield.
-/
import Derived.Test.YthomcgclkbmnkaaDoorCv
namespace Go.Proofs.YthomcgclkbmnkaaDoor
open Go Go.Vc
set_option maxRecDepth 100000
set_option linter.unusedSimpArgs false
set_option linter.unusedVariables false
set_option maxHeartbeats 4000000
noncomputable def o9 : Oper := opsD[9]!
noncomputable def o10 : Oper := opsD[10]!
noncomputable def o11 : Oper := opsD[11]!
theorem od9 : opsD[9]? = some o9 ∧ opsD[10]? = some o10 ∧ opsD[11]? = some o11 := by refine ⟨?_, ?_, ?_⟩ <;> kernel_rfl
theorem cp9 : cpo Tryd.prog opsD o9 = ⟨some 22, .callv (.t 20) [.t 21], some (19, true)⟩ ∧ cpo Tryd.prog opsD o10 = ⟨some 23, .un .not (.t 22), some (19, true)⟩ ∧ cpo Tryd.prog opsD o11 = ⟨some 24, .pick (.t 19) (.t 23) (.c (.v (.bool false))), none⟩ := by
  refine ⟨?_, ?_, ?_⟩ <;> kernel_rfl
theorem gd9 : o9.guard = some (6, true) ∧ o10.guard = some (6, true) ∧ o11.guard = none ∧ (opsD[6]?).bind (·.dst) = some 19 := by
  refine ⟨?_, ?_, ?_, ?_⟩ <;> kernel_rfl
theorem nd9 : noDefer opsD = true ∧ guardsOK opsD = true := by constructor <;> kernel_rfl
theorem opsP_in : ∀ (i : Nat) (o : Oper), opsP[i]? = some o → opsD[i]? = some o ∧ ∀ j want, o.guard = some (j, want) → opsP[j]? = opsD[j]? := by
  have hg : (opsP.toList.all fun o => match o.guard with | some (j, _) => decide (j < 9) | none => true) = true := by kernel_rfl
  have hx : ∀ i, i < 9 → opsP[i]? = opsD[i]? := fun i hi => by
    unfold opsP
    rw [Array.getElem?_extract, if_pos (by have := sizes45.1; omega), Nat.zero_add]
  intro i o hio
  have hi : i < 9 := by
    have := (Array.getElem?_eq_some_iff.1 hio).1
    rw [sizes45.2] at this
    exact this
  refine ⟨by rw [← hx i hi]; exact hio, fun j want hj => hx j ?_⟩
  have hm : o ∈ opsP.toList := by
    obtain ⟨h1, h2⟩ := Array.getElem?_eq_some_iff.1 hio
    rw [← h2]
    exact Array.mem_toList_iff.2 (Array.getElem_mem h1)
  have := List.all_eq_true.1 hg o hm
  simp only [hj, decide_eq_true_eq] at this
  exact this
theorem wanted9 {o : Oper} (hg : o.guard = some (6, true)) {a : Act} {b : Bool} (hb : a.tmps[19]? = some (.bool b)) : Region.wanted o (yielded opsD a.tmps) = b := by
  unfold Region.wanted
  rw [hg]
  simp only [yielded, gd9.2.2.2, Option.bind_some, hb]
  cases b <;> rfl
theorem toL {a : Act} {j : Nat} {v : Value} (h : a.tmps.toList[j]? = some v) : a.tmps[j]? = some v := by simpa using h
def tmT (l n i : Nat) (f : Fl) : List SV := tmk 26 0 [(0, .fn (.yield l) [] []), (2, .ptr 8 0 0 0), (7, .slc 9 12 0 n), (8, .v (.int .i64 n)), (9, .v (.int .i64 i)), (19, .v (.bool true)), (20, .fn (.yield l) [] []), (21, .agg (fsv f))]
def tmN (l n i : Nat) : List SV := tmk 26 0 [(0, .fn (.yield l) [] []), (2, .ptr 8 0 0 0), (7, .slc 9 12 0 n), (8, .v (.int .i64 n)), (9, .v (.int .i64 i)), (19, .v (.bool false))]
def tmX (l n i : Nat) (b : Bool) : List SV := tmk 26 0 [(0, .fn (.yield l) [] []), (2, .ptr 8 0 0 0), (7, .slc 9 12 0 n), (8, .v (.int .i64 n)), (9, .v (.int .i64 i)), (24, .v (.bool b))]
theorem d45b (M : HL) (h r nx : Int) (fl : List Fl) (k st : Int) (l q i : Nat) (f : Fl) :
    vDT GY (rD.take 9) dtP [] (tmC l fl.length i) (rHp h r nx fl k st q ++ [.cells 44 (fsv f)]) M fun tm1 hp1 M1 => M1 = M ∧ hp1 = rHp h r nx fl k st q ++ [.cells 44 (fsv f)] ∧ ((classN f.2.kind = k ∧ Fg tm1 (tmT l fl.length i f)) ∨ (classN f.2.kind ≠ k ∧ Fg tm1 (tmN l fl.length i))) := by
  repeat ((conv => whnf); (first | refine Cnd.yes ?_ | refine Cnd.no ?_ | refine And.intro rfl ?_ | refine And.intro (by omega) ?_ | (refine And.intro ?_ ?_; focus (simp only [IntKind.wrap_i64, IntKind.wrap_u64, IntKind.wrap_u32]; omega)) | (refine And.intro ?_ ?_; focus (simp only [zl1, zl2, zl3, zl4, zl5, zl6, zl7, zl8, zl9] <;> omega)) | refine Alt.std ?_ | (refine Cnd.tt ?_ ?_; focus (first | (apply decide_eq_true; omega) | (simp only [zq1, zq2, zq3, zq4, zq5, zq6, zq7, zq8, zq9, zq10, zq11, zq12] <;> omega) | rfl)) | (refine Cnd.ff ?_ ?_; focus (first | (apply decide_eq_false; omega) | (simp only [zq1, zq2, zq3, zq4, zq5, zq6, zq7, zq8, zq9, zq10, zq11, zq12] <;> omega) | rfl))))
  conv => whnf
  intro Mr hMr
  repeat ((conv => whnf); (first | refine Cnd.yes ?_ | refine Cnd.no ?_ | refine And.intro rfl ?_ | refine And.intro (by omega) ?_ | (refine And.intro ?_ ?_; focus (simp only [IntKind.wrap_i64, IntKind.wrap_u64, IntKind.wrap_u32]; omega)) | (refine And.intro ?_ ?_; focus (simp only [zl1, zl2, zl3, zl4, zl5, zl6, zl7, zl8, zl9] <;> omega)) | refine Alt.std ?_ | (refine Cnd.tt ?_ ?_; focus (first | (apply decide_eq_true; omega) | (simp only [zq1, zq2, zq3, zq4, zq5, zq6, zq7, zq8, zq9, zq10, zq11, zq12] <;> omega) | rfl)) | (refine Cnd.ff ?_ ?_; focus (first | (apply decide_eq_false; omega) | (simp only [zq1, zq2, zq3, zq4, zq5, zq6, zq7, zq8, zq9, zq10, zq11, zq12] <;> omega) | rfl))))
  conv => whnf
  refine ⟨f.2.kind, rfl, ?_⟩
  by_cases hk : classN f.2.kind = k
  · repeat ((conv => whnf); (first | refine Cnd.yes ?_ | refine Cnd.no ?_ | refine And.intro rfl ?_ | refine And.intro (by omega) ?_ | (refine And.intro ?_ ?_; focus (simp only [IntKind.wrap_i64, IntKind.wrap_u64, IntKind.wrap_u32]; omega)) | (refine And.intro ?_ ?_; focus (simp only [zl1, zl2, zl3, zl4, zl5, zl6, zl7, zl8, zl9] <;> omega)) | refine Alt.std ?_ | (refine Cnd.tt ?_ ?_; focus (first | (apply decide_eq_true; omega) | (simp only [zq1, zq2, zq3, zq4, zq5, zq6, zq7, zq8, zq9, zq10, zq11, zq12] <;> omega) | rfl)) | (refine Cnd.ff ?_ ?_; focus (first | (apply decide_eq_false; omega) | (simp only [zq1, zq2, zq3, zq4, zq5, zq6, zq7, zq8, zq9, zq10, zq11, zq12] <;> omega) | rfl))))
    conv => whnf
    refine .inl ⟨hk, ?_⟩
    repeat ((conv => whnf); (first | exact trivial | refine And.intro (.inl rfl) ?_ | refine And.intro (.inr rfl) ?_))
  · repeat ((conv => whnf); (first | refine Cnd.yes ?_ | refine Cnd.no ?_ | refine And.intro rfl ?_ | refine And.intro (by omega) ?_ | (refine And.intro ?_ ?_; focus (simp only [IntKind.wrap_i64, IntKind.wrap_u64, IntKind.wrap_u32]; omega)) | (refine And.intro ?_ ?_; focus (simp only [zl1, zl2, zl3, zl4, zl5, zl6, zl7, zl8, zl9] <;> omega)) | refine Alt.std ?_ | (refine Cnd.tt ?_ ?_; focus (first | (apply decide_eq_true; omega) | (simp only [zq1, zq2, zq3, zq4, zq5, zq6, zq7, zq8, zq9, zq10, zq11, zq12] <;> omega) | rfl)) | (refine Cnd.ff ?_ ?_; focus (first | (apply decide_eq_false; omega) | (simp only [zq1, zq2, zq3, zq4, zq5, zq6, zq7, zq8, zq9, zq10, zq11, zq12] <;> omega) | rfl))))
    conv => whnf
    refine .inr ⟨hk, ?_⟩
    repeat ((conv => whnf); (first | exact trivial | refine And.intro (.inl rfl) ?_ | refine And.intro (.inr rfl) ?_))
/-- Names below k only. -/
def NmS (k : Nat) : SV → Prop
  | .ptr n _ _ _ => n < k
  | .slc n _ _ _ => n < k
  | .v _ => True
  | .any => True
  | .fn _ [] [] => True
  | .agg l => ∀ x ∈ l, ∃ v, x = .v v
  | _ => False
def NmL (k : Nat) : List SV → Prop
  | [] => True
  | s :: r => NmS k s ∧ NmL k r
theorem denL_v {ρ ρ2 : Nat → Vc.Loc} : ∀ {l : List SV} {vs : List Value}, (∀ x ∈ l, ∃ v, x = SV.v v) → DenL ρ l vs → DenL ρ2 l vs
  | [], [], _, h => h
  | x :: l, v :: vs, h, hd => by
    simp only [DenL] at hd ⊢
    obtain ⟨u, rfl⟩ := h _ (List.mem_cons_self ..)
    exact ⟨hd.1, denL_v (fun y hy => h y (List.mem_cons_of_mem _ hy)) hd.2⟩
  | [], _ :: _, _, h => by simp [DenL] at h
  | _ :: _, [], _, h => by simp [DenL] at h
theorem NmS.den {k : Nat} {ρ ρ2 : Nat → Vc.Loc} (hE : Ext k ρ ρ2) : ∀ {s : SV} {v : Value}, NmS k s → Den ρ s v → Den ρ2 s v
  | .ptr n _ _ _, v, h, hd => by
    have h : n < k := h
    simp only [Den] at hd ⊢
    rw [hE n h]
    exact hd
  | .slc n _ _ _, v, h, hd => by
    have h : n < k := h
    simp only [Den] at hd ⊢
    rw [hE n h]
    exact hd
  | .v _, v, _, hd => hd
  | .any, v, _, hd => hd
  | .fn _ [] [], v, _, hd => by
    simp only [Den] at hd ⊢
    obtain ⟨a, b, h1, h2, h3⟩ := hd
    exact ⟨a, b, h1, denL_v (fun x hx => by cases hx) h2, denL_v (fun x hx => by cases hx) h3⟩
  | .agg l, v, h, hd => by
    simp only [Den] at hd ⊢
    obtain ⟨cs, h1, h2⟩ := hd
    exact ⟨cs, h1, denL_v h h2⟩
theorem NmL.den {k : Nat} {ρ ρ2 : Nat → Vc.Loc} (hE : Ext k ρ ρ2) : ∀ {l : List SV} {vs : List Value}, NmL k l → DenL ρ l vs → DenL ρ2 l vs
  | [], [], _, h => h
  | x :: l, v :: vs, h, hd => by
    simp only [DenL] at hd ⊢
    exact ⟨h.1.den hE hd.1, NmL.den hE h.2 hd.2⟩
  | [], _ :: _, _, h => by simp [DenL] at h
  | _ :: _, [], _, h => by simp [DenL] at h
theorem fsv_v (f : Fl) : ∀ x ∈ fsv f, ∃ v, x = SV.v v := by
  intro x hx
  simp only [fsv, List.mem_cons, List.not_mem_nil, or_false] at hx
  rcases hx with rfl | rfl | rfl | rfl | rfl | rfl | rfl | rfl | rfl | rfl | rfl | rfl <;> exact ⟨_, rfl⟩
theorem nmT (l n i : Nat) (f : Fl) : NmL 10 (tmT l n i f) := by
  repeat ((conv => whnf); (first | exact trivial | refine And.intro trivial ?_ | refine And.intro (show (8 : Nat) < 10 by decide) ?_ | refine And.intro (show (9 : Nat) < 10 by decide) ?_ | refine And.intro (fsv_v f) ?_))
theorem nmL (l n i : Nat) : NmL 10 (tmL l n i) := by
  repeat ((conv => whnf); (first | exact trivial | refine And.intro trivial ?_ | refine And.intro (show (8 : Nat) < 10 by decide) ?_ | refine And.intro (show (9 : Nat) < 10 by decide) ?_))
theorem one11 {n : Nat} {Q : Exit → Act → World → Prop} {a : Act} {w : World} (h : wpListIn (Wd none) n Tryd.prog opsD Q [o11] a w) : tailIn none n Tryd.prog opsD Q [11] a w := by
  show wpOpIn (Wd none) n Tryd.prog opsD Q 11 _ a w
  unfold wpOpIn
  rw [od9.2.2]
  exact h
theorem tailN {n l len i : Nat} {Q : Exit → Act → World → Prop} {a : Act} {w : World} {ρ : Nat → Vc.Loc} {hp : List Ent} {M F : HL} (H : Holds ρ hp M F w) (hD : DenL ρ (tmN l len i) a.tmps.toList)
    (hF : ∀ a2, DenL ρ (tmX l len i false) a2.tmps.toList → a2.defers = a.defers → Q .normal a2 w) : tailIn none n Tryd.prog opsD Q [9, 10, 11] a w := by
  obtain ⟨v19, e19, d19⟩ := hD.get (n := 19) (x := .v (.bool false)) rfl
  simp only [Den] at d19
  subst d19
  show wpOpIn (Wd none) n Tryd.prog opsD Q 9 _ a w
  unfold wpOpIn
  rw [od9.1]
  dsimp only
  rw [wanted9 gd9.1 (toL e19), if_neg (by simp), show o9.dst = some 22 from congrArg PO.dst cp9.1]
  refine ⟨fun _ _ => trivial, ?_⟩
  have D1 : DenL ρ ((tmN l len i).set 22 (.v undef)) (a.put (some 22) undef).tmps.toList := by simpa [Act.put] using hD.set (show Den ρ (.v undef) undef from rfl) 22
  have q1 : (a.put (some 22) undef).defers = a.defers := rfl
  generalize a.put (some 22) undef = a1 at D1 q1 ⊢
  obtain ⟨v19, e19, d19⟩ := D1.get (n := 19) (x := .v (.bool false)) rfl
  simp only [Den] at d19
  subst d19
  show wpOpIn (Wd none) n Tryd.prog opsD Q 10 _ a1 w
  unfold wpOpIn
  rw [od9.2.1]
  dsimp only
  rw [wanted9 gd9.2.1 (toL e19), if_neg (by simp), show o10.dst = some 23 from congrArg PO.dst cp9.2.1]
  refine ⟨fun _ _ => trivial, ?_⟩
  have D2 : DenL ρ (((tmN l len i).set 22 (.v undef)).set 23 (.v undef)) (a1.put (some 23) undef).tmps.toList := by simpa [Act.put] using D1.set (show Den ρ (.v undef) undef from rfl) 23
  have q2 : (a1.put (some 23) undef).defers = a1.defers := rfl
  generalize a1.put (some 23) undef = a2 at D2 q2 ⊢
  refine one11 (st_pure (.v (.bool false)) (fun j want hj => by rw [gd9.2.2.1] at hj; cases hj) (fun c => noDefer_spec nd9.1 o11 (Array.mem_toList_iff.2 (Array.mem_of_getElem? od9.2.2)) c) cp9.2.2 rfl H D2 ?_ fun a3 D3 q3 => hF a3 (Fg.den ?_ D3) (q3.trans (q2.trans q1)))
  · repeat ((conv => whnf); (first | refine Cnd.yes ?_ | refine Cnd.no ?_ | refine And.intro rfl ?_ | refine And.intro (by omega) ?_ | (refine And.intro ?_ ?_; focus (simp only [IntKind.wrap_i64, IntKind.wrap_u64, IntKind.wrap_u32]; omega)) | (refine And.intro ?_ ?_; focus (simp only [zl1, zl2, zl3, zl4, zl5, zl6, zl7, zl8, zl9] <;> omega)) | refine Alt.std ?_ | (refine Cnd.tt ?_ ?_; focus (first | (apply decide_eq_true; omega) | (simp only [zq1, zq2, zq3, zq4, zq5, zq6, zq7, zq8, zq9, zq10, zq11, zq12] <;> omega) | rfl)) | (refine Cnd.ff ?_ ?_; focus (first | (apply decide_eq_false; omega) | (simp only [zq1, zq2, zq3, zq4, zq5, zq6, zq7, zq8, zq9, zq10, zq11, zq12] <;> omega) | rfl))))
    conv => whnf
  · repeat ((conv => whnf); (first | exact trivial | refine And.intro (.inl rfl) ?_ | refine And.intro (.inr rfl) ?_))
theorem tailT {n l len i : Nat} {f : Fl} {Q : Exit → Act → World → Prop} {a : Act} {w : World} {ρ : Nat → Vc.Loc} {hp : List Ent} {M F : HL} (H : Holds ρ hp M F w) (hD : DenL ρ (tmT l len i f) a.tmps.toList)
    (hT : ∀ y, Den ρ (.agg (fsv f)) y → YieldAt (Wd none) (n - 1) Tryd.prog l #[y] w fun e w' => ∃ c : Bool, e = .returned (.bool c) ∧ ∃ ρ2 hp2 M2 F2, Holds ρ2 hp2 M2 F2 w' ∧ Ext 10 ρ ρ2 ∧
      ∀ a2, DenL ρ2 (tmX l len i (!c)) a2.tmps.toList → a2.defers = a.defers → Q .normal a2 w') : tailIn none n Tryd.prog opsD Q [9, 10, 11] a w := by
  obtain ⟨v19, e19, d19⟩ := hD.get (n := 19) (x := .v (.bool true)) rfl
  simp only [Den] at d19
  subst d19
  obtain ⟨v20, e20, d20⟩ := hD.get (n := 20) (x := .fn (.yield l) [] []) rfl
  obtain ⟨y, e21, d21⟩ := hD.get (n := 21) (x := .agg (fsv f)) rfl
  have h20 : v20 = .func (.yield l) #[] #[] := by
    simp only [Den] at d20
    obtain ⟨x, z, rfl, hx, hz⟩ := d20
    have hx0 : x = [] := by cases x with | nil => rfl | cons _ _ => simp [DenL] at hx
    have hz0 : z = [] := by cases z with | nil => rfl | cons _ _ => simp [DenL] at hz
    subst hx0; subst hz0
    rfl
  subst h20
  have hY := hT y d21
  show wpOpIn (Wd none) n Tryd.prog opsD Q 9 _ a w
  unfold wpOpIn
  rw [od9.1]
  dsimp only
  rw [wanted9 gd9.1 (toL e19), if_pos rfl]
  have h3 : cop Tryd.prog o9 = .callv (.t 20) [.t 21] := congrArg PO.op cp9.1
  obtain ⟨c, g, ho, hcal, hgx, hxs⟩ := inv_callv h3
  obtain ⟨fn, tmps, assign, body, hy, hR⟩ := hY
  have hargs : c.args.map a.eval = #[y] := by
    apply Array.ext'
    rw [Array.toList_map]
    match hl : c.args.toList, hxs with
    | [x1], hxs =>
      simp only [List.map_cons, List.map_nil, List.cons.injEq, and_true] at hxs
      simp [eval_t e21 x1 hxs]
    | [], hxs => simp at hxs
    | _ :: _ :: _, hxs => simp at hxs
  have hrun : (execOp a.eval o9).run Tryd.prog w = .ok (.round l fn tmps assign body) w := by
    simp [execOp, ho, resolve, hcal, eval_t e20 g hgx, Deferred.ofValue, invoke, hargs, hy]
  have hdf : ∀ c, o9.op ≠ .defer c := fun c => noDefer_spec nd9.1 o9 (Array.mem_toList_iff.2 (Array.mem_of_getElem? od9.1)) c
  refine ⟨fun _ _ => trivial, ?_⟩
  rw [Oper.semAt_eq _ _ _ hdf, hrun]
  refine ⟨fun h => (by cases h), hR.mono fun e w' hr => ?_⟩
  obtain ⟨b, rfl, ρ2, hp2, M2, F2, H2, hE2, hQ⟩ := hr
  show tailIn none n Tryd.prog opsD Q [10, 11] (a.put o9.dst (.bool b)) w'
  rw [show o9.dst = some 22 from congrArg PO.dst cp9.1]
  have hDf : DenL ρ2 (tmT l len i f) a.tmps.toList := (nmT l len i f).den hE2 hD
  have D1 : DenL ρ2 ((tmT l len i f).set 22 (.v (.bool b))) (a.put (some 22) (.bool b)).tmps.toList := by simpa [Act.put] using hDf.set (show Den ρ2 (.v (.bool b)) (.bool b) from rfl) 22
  have q1 : (a.put (some 22) (.bool b)).defers = a.defers := rfl
  generalize a.put (some 22) (.bool b) = a1 at D1 q1 ⊢
  obtain ⟨v19, e19, d19⟩ := D1.get (n := 19) (x := .v (.bool true)) rfl
  simp only [Den] at d19
  subst d19
  show wpOpIn (Wd none) n Tryd.prog opsD Q 10 _ a1 w'
  unfold wpOpIn
  rw [od9.2.1]
  dsimp only
  rw [wanted9 gd9.2.1 (toL e19), if_pos rfl]
  have hd10 : ∀ c, o10.op ≠ .defer c := fun c => noDefer_spec nd9.1 o10 (Array.mem_toList_iff.2 (Array.mem_of_getElem? od9.2.1)) c
  have hgs : ∀ o ∈ opsD.toList, ∀ j want, o.guard = some (j, want) → ((opsD[j]?).bind (·.dst)).isSome = true := guards_spec nd9.2
  have hL : wpListIn (Wd none) n Tryd.prog opsD Q [o11] = tailIn none n Tryd.prog opsD Q [11] := by
    funext a w
    show _ = wpOpIn (Wd none) n Tryd.prog opsD Q 11 _ a w
    unfold wpOpIn
    rw [od9.2.2]
    rfl
  rw [← hL]
  have hv10 : vcOp (fun _ => none) (cop Tryd.prog o10) ((tmT l len i f).set 22 (.v (.bool b))) hp2 M2 fun v _ _ => v = .v (.bool (!b)) := by
    rw [show cop Tryd.prog o10 = .un .not (.t 22) from congrArg PO.op cp9.2.1]
    repeat ((conv => whnf); (first | refine Cnd.yes ?_ | refine Cnd.no ?_ | refine And.intro rfl ?_ | refine And.intro (by omega) ?_ | (refine And.intro ?_ ?_; focus (simp only [IntKind.wrap_i64, IntKind.wrap_u64, IntKind.wrap_u32]; omega)) | (refine And.intro ?_ ?_; focus (simp only [zl1, zl2, zl3, zl4, zl5, zl6, zl7, zl8, zl9] <;> omega)) | refine Alt.std ?_ | (refine Cnd.tt ?_ ?_; focus (first | (apply decide_eq_true; omega) | (simp only [zq1, zq2, zq3, zq4, zq5, zq6, zq7, zq8, zq9, zq10, zq11, zq12] <;> omega) | rfl)) | (refine Cnd.ff ?_ ?_; focus (first | (apply decide_eq_false; omega) | (simp only [zq1, zq2, zq3, zq4, zq5, zq6, zq7, zq8, zq9, zq10, zq11, zq12] <;> omega) | rfl))))
    conv => whnf
  rcases vcOp_both (P := Tryd.prog) (Γ := fun _ => none) (fun _ _ h => by cases h) H2 D1 hv10 with ⟨v, sv', hr, hk, hv⟩ | ⟨hq, _⟩
  · subst hk
    simp only [Den] at hv
    subst hv
    refine op_in hd10 ?_
    unfold Oper.wp
    rw [hr w']
    show wpListIn (Wd none) n Tryd.prog opsD Q [o11] (a1.put o10.dst (.bool (!b))) w'
    rw [show o10.dst = some 23 from congrArg PO.dst cp9.2.1]
    have D2 : DenL ρ2 (((tmT l len i f).set 22 (.v (.bool b))).set 23 (.v (.bool (!b)))) (a1.put (some 23) (.bool (!b))).tmps.toList := by simpa [Act.put] using D1.set (show Den ρ2 (.v (.bool (!b))) (.bool (!b)) from rfl) 23
    have q2 : (a1.put (some 23) (.bool (!b))).defers = a1.defers := rfl
    generalize a1.put (some 23) (.bool (!b)) = a2 at D2 q2 ⊢
    refine st_pure (.v (.bool (!b))) (fun j want hj => by rw [gd9.2.2.1] at hj; cases hj) (fun c => noDefer_spec nd9.1 o11 (Array.mem_toList_iff.2 (Array.mem_of_getElem? od9.2.2)) c) cp9.2.2 rfl H2 D2 ?_ fun a3 D3 q3 => hQ a3 (Fg.den ?_ D3) (q3.trans (q2.trans q1))
    · repeat ((conv => whnf); (first | refine Cnd.yes ?_ | refine Cnd.no ?_ | refine And.intro rfl ?_ | refine And.intro (by omega) ?_ | (refine And.intro ?_ ?_; focus (simp only [IntKind.wrap_i64, IntKind.wrap_u64, IntKind.wrap_u32]; omega)) | (refine And.intro ?_ ?_; focus (simp only [zl1, zl2, zl3, zl4, zl5, zl6, zl7, zl8, zl9] <;> omega)) | refine Alt.std ?_ | (refine Cnd.tt ?_ ?_; focus (first | (apply decide_eq_true; omega) | (simp only [zq1, zq2, zq3, zq4, zq5, zq6, zq7, zq8, zq9, zq10, zq11, zq12] <;> omega) | rfl)) | (refine Cnd.ff ?_ ?_; focus (first | (apply decide_eq_false; omega) | (simp only [zq1, zq2, zq3, zq4, zq5, zq6, zq7, zq8, zq9, zq10, zq11, zq12] <;> omega) | rfl))))
      conv => whnf
    · repeat ((conv => whnf); (first | exact trivial | refine And.intro (.inl rfl) ?_ | refine And.intro (.inr rfl) ?_))
  · rw [show cop Tryd.prog o10 = .un .not (.t 22) from congrArg PO.op cp9.2.1] at hq
    cases hq
end Go.Proofs.YthomcgclkbmnkaaDoor
