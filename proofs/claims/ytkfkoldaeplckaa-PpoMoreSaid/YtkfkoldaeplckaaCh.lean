/-
  Why, first, walked; their contracts.
-/
import Derived.Test.YtkfkoldaeplckaaCg
namespace Go.Proofs.Ytkfkoldaeplckaa
open Go Go.Vc
set_option maxRecDepth 100000
set_option linter.unusedSimpArgs false
set_option linter.unusedVariables false
set_option maxHeartbeats 4000000
def withS : Vc.Spec := fun args hp M K => ∃ (o : Bool) (e : TypeId) (l : List Op) (o2 : Bool) (ps : List Int) (a b : Nat), args = [.slc 0 13 0 l.length, .slc 1 1 0 l.length, .v (.int .i64 a), .v (.int .i64 b)] ∧ hp = [.row o e ock (l.map orow), .row o2 3 [.int .i64] (ps.map irow)] ∧ a < b ∧ b < l.length ∧ ps.length = l.length ∧ l.length ≤ 1000 ∧ (∀ x ∈ l, Fit x) ∧ Deps M l ∧
  K (.v (.int .i64 (withN l ps a b (l.getD a default) (l.getD b default)))) [.row o e ock (l.map orow), .row o2 3 [.int .i64] (ps.map irow)]
theorem with_ok : SOK Try.prog 16 withS := by
  refine TOK.weaken (TOK.out (runF_eq G5_ok mixed at16.1 at16.2 pf16_eq)) fun args hp M K h => ?_
  obtain ⟨o, e, l, o2, ps, a, b, rfl, rfl, h1, h2, h3, h4, h5, h6, h7⟩ := h
  exact with_run M K o e l o2 ps a b _ _ rfl rfl h1 h2 h3 h4 h5 h6 h7
noncomputable def specs6 : Nat → Option Vc.Trans := tget [(13, frameT pairsS), (16, frameT withS)]
noncomputable def G6 : Nat → Option Vc.Trans := tabG specs6 (tget tab) 5
theorem G6_ok : GOK Try.prog G6 := tabG_ok (GOK.cons (frame_ok pairs_ok) (GOK.cons (frame_ok with_ok) .nil)) tab_ok 5
def whyN (l : List Op) (a b : Int) : Int := if 0 ≤ a ∧ a < b ∧ b < l.length then withN l (pairsL l) a.toNat b.toNat (l.getD a.toNat default) (l.getD b.toNat default) else 0
theorem why_run (M : HL) (K : SV → List Ent → HL → Prop) (o : Bool) (e : TypeId) (l : List Op) (a b : Int) (hl : l.length ≤ 1000) (hF : ∀ x ∈ l, Fit x) (hD : Deps M l) (hK : K (.v (.int .i64 (whyN l a b))) [.row o e ock (l.map orow)] M) :
    runF G6 pf12 [.slc 0 13 0 l.length, .v (.int .i64 a), .v (.int .i64 b)] [.row o e ock (l.map orow)] M fun v hp2 M2 => ∃ m v' hp', Wk (llen [Ent.row o e ock (l.map orow)]) m [v] hp2 [v'] hp' (K v' hp' M2) := by
  unfold whyN at hK
  by_cases h : 0 ≤ a ∧ a < b ∧ b < l.length
  · rw [if_pos h] at hK
    obtain ⟨q, rfl⟩ : ∃ q : Nat, a = q := ⟨a.toNat, by omega⟩
    obtain ⟨r, rfl⟩ : ∃ r : Nat, b = r := ⟨b.toNat, by omega⟩
    rw [Int.toNat_natCast, Int.toNat_natCast] at hK
    have hpl : (pairsL l).length = l.length := by simp [pairsL]
    repeat ((conv => whnf); (first | refine Cnd.yes ?_ | refine Cnd.no ?_ | refine And.intro rfl ?_ | refine And.intro (by omega) ?_ | (refine And.intro ?_ ?_; focus (simp only [IntKind.wrap_i64, IntKind.wrap_u64, IntKind.wrap_u32]; omega)) | (refine And.intro ?_ ?_; focus (simp only [zl1, zl2, zl3, zl4, zl5, zl6, zl7, zl8, zl9] <;> omega)) | refine Alt.std ?_ | (refine Cnd.tt ?_ ?_; focus (first | (apply decide_eq_true; omega) | (simp only [zq1, zq2, zq3, zq4, zq5, zq6, zq7, zq8, zq9, zq10, zq11, zq12] <;> omega) | rfl)) | (refine Cnd.ff ?_ ?_; focus (first | (apply decide_eq_false; omega) | (simp only [zq1, zq2, zq3, zq4, zq5, zq6, zq7, zq8, zq9, zq10, zq11, zq12] <;> omega) | rfl))))
    conv => whnf
    refine ⟨o, e, l, rfl, rfl, hl, ?_⟩
    rw [hpl]
    repeat ((conv => whnf); (first | refine Cnd.yes ?_ | refine Cnd.no ?_ | refine And.intro rfl ?_ | refine And.intro (by omega) ?_ | (refine And.intro ?_ ?_; focus (simp only [IntKind.wrap_i64, IntKind.wrap_u64, IntKind.wrap_u32]; omega)) | (refine And.intro ?_ ?_; focus (simp only [zl1, zl2, zl3, zl4, zl5, zl6, zl7, zl8, zl9] <;> omega)) | refine Alt.std ?_ | (refine Cnd.tt ?_ ?_; focus (first | (apply decide_eq_true; omega) | (simp only [zq1, zq2, zq3, zq4, zq5, zq6, zq7, zq8, zq9, zq10, zq11, zq12] <;> omega) | rfl)) | (refine Cnd.ff ?_ ?_; focus (first | (apply decide_eq_false; omega) | (simp only [zq1, zq2, zq3, zq4, zq5, zq6, zq7, zq8, zq9, zq10, zq11, zq12] <;> omega) | rfl))))
    conv => whnf
    refine ⟨o, e, l, true, pairsL l, q, r, rfl, rfl, by omega, by omega, hpl, hl, hF, hD, ?_⟩
    repeat ((conv => whnf); (first | refine Cnd.yes ?_ | refine Cnd.no ?_ | refine And.intro rfl ?_ | refine And.intro (by omega) ?_ | (refine And.intro ?_ ?_; focus (simp only [IntKind.wrap_i64, IntKind.wrap_u64, IntKind.wrap_u32]; omega)) | (refine And.intro ?_ ?_; focus (simp only [zl1, zl2, zl3, zl4, zl5, zl6, zl7, zl8, zl9] <;> omega)) | refine Alt.std ?_ | (refine Cnd.tt ?_ ?_; focus (first | (apply decide_eq_true; omega) | (simp only [zq1, zq2, zq3, zq4, zq5, zq6, zq7, zq8, zq9, zq10, zq11, zq12] <;> omega) | rfl)) | (refine Cnd.ff ?_ ?_; focus (first | (apply decide_eq_false; omega) | (simp only [zq1, zq2, zq3, zq4, zq5, zq6, zq7, zq8, zq9, zq10, zq11, zq12] <;> omega) | rfl))))
    conv => whnf
    refine ⟨[0], .v (.int .i64 (withN l (pairsL l) q r (l.getD q default) (l.getD r default))), [.row o e ock (l.map orow)], ?_⟩
    repeat ((conv => whnf); (first | refine Cnd.yes ?_ | refine Cnd.no ?_ | refine And.intro rfl ?_ | refine And.intro (by omega) ?_ | (refine And.intro ?_ ?_; focus (simp only [IntKind.wrap_i64, IntKind.wrap_u64, IntKind.wrap_u32]; omega)) | (refine And.intro ?_ ?_; focus (simp only [zl1, zl2, zl3, zl4, zl5, zl6, zl7, zl8, zl9] <;> omega)) | refine Alt.std ?_))
    conv => whnf
    exact hK
  · rw [if_neg h] at hK
    by_cases h1 : a < 0
    · repeat ((conv => whnf); (first | refine Cnd.yes ?_ | refine Cnd.no ?_ | refine And.intro rfl ?_ | refine And.intro (by omega) ?_ | (refine And.intro ?_ ?_; focus (simp only [IntKind.wrap_i64, IntKind.wrap_u64, IntKind.wrap_u32]; omega)) | (refine And.intro ?_ ?_; focus (simp only [zl1, zl2, zl3, zl4, zl5, zl6, zl7, zl8, zl9] <;> omega)) | refine Alt.std ?_ | (refine Cnd.tt ?_ ?_; focus (first | (apply decide_eq_true; omega) | (simp only [zq1, zq2, zq3, zq4, zq5, zq6, zq7, zq8, zq9, zq10, zq11, zq12] <;> omega) | rfl)) | (refine Cnd.ff ?_ ?_; focus (first | (apply decide_eq_false; omega) | (simp only [zq1, zq2, zq3, zq4, zq5, zq6, zq7, zq8, zq9, zq10, zq11, zq12] <;> omega) | rfl))))
      conv => whnf
      refine ⟨[0], .v (.int .i64 0), [.row o e ock (l.map orow)], ?_⟩
      repeat ((conv => whnf); (first | refine Cnd.yes ?_ | refine Cnd.no ?_ | refine And.intro rfl ?_ | refine And.intro (by omega) ?_ | (refine And.intro ?_ ?_; focus (simp only [IntKind.wrap_i64, IntKind.wrap_u64, IntKind.wrap_u32]; omega)) | (refine And.intro ?_ ?_; focus (simp only [zl1, zl2, zl3, zl4, zl5, zl6, zl7, zl8, zl9] <;> omega)) | refine Alt.std ?_))
      conv => whnf
      exact hK
    · by_cases h2 : b ≤ a
      · repeat ((conv => whnf); (first | refine Cnd.yes ?_ | refine Cnd.no ?_ | refine And.intro rfl ?_ | refine And.intro (by omega) ?_ | (refine And.intro ?_ ?_; focus (simp only [IntKind.wrap_i64, IntKind.wrap_u64, IntKind.wrap_u32]; omega)) | (refine And.intro ?_ ?_; focus (simp only [zl1, zl2, zl3, zl4, zl5, zl6, zl7, zl8, zl9] <;> omega)) | refine Alt.std ?_ | (refine Cnd.tt ?_ ?_; focus (first | (apply decide_eq_true; omega) | (simp only [zq1, zq2, zq3, zq4, zq5, zq6, zq7, zq8, zq9, zq10, zq11, zq12] <;> omega) | rfl)) | (refine Cnd.ff ?_ ?_; focus (first | (apply decide_eq_false; omega) | (simp only [zq1, zq2, zq3, zq4, zq5, zq6, zq7, zq8, zq9, zq10, zq11, zq12] <;> omega) | rfl))))
        conv => whnf
        refine ⟨[0], .v (.int .i64 0), [.row o e ock (l.map orow)], ?_⟩
        repeat ((conv => whnf); (first | refine Cnd.yes ?_ | refine Cnd.no ?_ | refine And.intro rfl ?_ | refine And.intro (by omega) ?_ | (refine And.intro ?_ ?_; focus (simp only [IntKind.wrap_i64, IntKind.wrap_u64, IntKind.wrap_u32]; omega)) | (refine And.intro ?_ ?_; focus (simp only [zl1, zl2, zl3, zl4, zl5, zl6, zl7, zl8, zl9] <;> omega)) | refine Alt.std ?_))
        conv => whnf
        exact hK
      · repeat ((conv => whnf); (first | refine Cnd.yes ?_ | refine Cnd.no ?_ | refine And.intro rfl ?_ | refine And.intro (by omega) ?_ | (refine And.intro ?_ ?_; focus (simp only [IntKind.wrap_i64, IntKind.wrap_u64, IntKind.wrap_u32]; omega)) | (refine And.intro ?_ ?_; focus (simp only [zl1, zl2, zl3, zl4, zl5, zl6, zl7, zl8, zl9] <;> omega)) | refine Alt.std ?_ | (refine Cnd.tt ?_ ?_; focus (first | (apply decide_eq_true; omega) | (simp only [zq1, zq2, zq3, zq4, zq5, zq6, zq7, zq8, zq9, zq10, zq11, zq12] <;> omega) | rfl)) | (refine Cnd.ff ?_ ?_; focus (first | (apply decide_eq_false; omega) | (simp only [zq1, zq2, zq3, zq4, zq5, zq6, zq7, zq8, zq9, zq10, zq11, zq12] <;> omega) | rfl))))
        conv => whnf
        refine ⟨[0], .v (.int .i64 0), [.row o e ock (l.map orow)], ?_⟩
        repeat ((conv => whnf); (first | refine Cnd.yes ?_ | refine Cnd.no ?_ | refine And.intro rfl ?_ | refine And.intro (by omega) ?_ | (refine And.intro ?_ ?_; focus (simp only [IntKind.wrap_i64, IntKind.wrap_u64, IntKind.wrap_u32]; omega)) | (refine And.intro ?_ ?_; focus (simp only [zl1, zl2, zl3, zl4, zl5, zl6, zl7, zl8, zl9] <;> omega)) | refine Alt.std ?_))
        conv => whnf
        exact hK
def whyS : Vc.Spec := fun args hp M K => ∃ (o : Bool) (e : TypeId) (l : List Op) (a b : Int), args = [.slc 0 13 0 l.length, .v (.int .i64 a), .v (.int .i64 b)] ∧ hp = [.row o e ock (l.map orow)] ∧ l.length ≤ 1000 ∧ (∀ x ∈ l, Fit x) ∧ Deps M l ∧ K (.v (.int .i64 (whyN l a b))) [.row o e ock (l.map orow)]
theorem why_ok : SOK Try.prog 12 whyS := by
  refine TOK.weaken (TOK.out (runF_eq G6_ok mixed at12.1 at12.2 pf12_eq)) fun args hp M K h => ?_
  obtain ⟨o, e, l, a, b, rfl, rfl, h1, h2, h3, h4⟩ := h
  exact why_run M K o e l a b h1 h2 h3 h4
noncomputable def specs7 : Nat → Option Vc.Trans := tget [(12, frameT whyS), (13, frameT pairsS)]
noncomputable def G7 : Nat → Option Vc.Trans := tabG specs7 (tget tab) 5
theorem G7_ok : GOK Try.prog G7 := tabG_ok (GOK.cons (frame_ok why_ok) (GOK.cons (frame_ok pairs_ok) .nil)) tab_ok 5
/-- An operation that hangs on nothing. -/
def op0 (k sz ad : Int) : Op := ⟨k, sz, ad, 0, 0, false, false, false, 0, 0, nilV, nilV, nilV, [], [], []⟩
theorem nil_in' (M : HL) (e : TypeId) : Vc.RowsIn M e [.int .i64] nilV (([] : List Int).map irow) := ⟨by decide, .inl ⟨rfl, none, rfl⟩⟩
theorem dep0 {M : HL} {x : Op} (ha : x.ya = nilV ∧ x.da = []) (hd : x.yd = nilV ∧ x.dd = []) (hc : x.yc = nilV ∧ x.dc = []) : OIn M x ∧ x.da.length ≤ 1000000 ∧ x.dd.length ≤ 1000000 ∧ x.dc.length ≤ 1000000 := by
  refine ⟨⟨⟨0, ?_⟩, ⟨0, ?_⟩, ⟨0, ?_⟩⟩, ?_, ?_, ?_⟩
  · rw [ha.1, ha.2]; exact nil_in' M 0
  · rw [hd.1, hd.2]; exact nil_in' M 0
  · rw [hc.1, hc.2]; exact nil_in' M 0
  · rw [ha.2]; simp
  · rw [hd.2]; simp
  · rw [hc.2]; simp
def fa : List Op := [op0 1 4 0, op0 2 4 4]
def fb : List Op := [op0 1 4 0, ⟨4, 0, 0, 0, 0, false, false, false, 1, 2, nilV, nilV, nilV, [], [], []⟩, op0 2 4 4]
theorem fa_why : whyN fa 0 1 = 0 := by decide +kernel
theorem fb_why : whyN fb 0 2 = 4 := by decide +kernel
theorem first_run (M : HL) (K : SV → List Ent → HL → Prop) (hK : K (.v (.bool true)) [] M) :
    runF G7 pf8 [] [] M fun v hp2 M2 => ∃ m v' hp', Wk (llen ([] : List Ent)) m [v] hp2 [v'] hp' (K v' hp' M2) := by
  repeat ((conv => whnf); (first | refine Cnd.yes ?_ | refine Cnd.no ?_ | refine And.intro rfl ?_ | refine And.intro (by omega) ?_ | (refine And.intro ?_ ?_; focus (simp only [IntKind.wrap_i64, IntKind.wrap_u64, IntKind.wrap_u32]; omega)) | (refine And.intro ?_ ?_; focus (simp only [zl1, zl2, zl3, zl4, zl5, zl6, zl7, zl8, zl9] <;> omega)) | refine Alt.std ?_ | (refine Cnd.tt ?_ ?_; focus (first | (apply decide_eq_true; omega) | (simp only [zq1, zq2, zq3, zq4, zq5, zq6, zq7, zq8, zq9, zq10, zq11, zq12] <;> omega) | rfl)) | (refine Cnd.ff ?_ ?_; focus (first | (apply decide_eq_false; omega) | (simp only [zq1, zq2, zq3, zq4, zq5, zq6, zq7, zq8, zq9, zq10, zq11, zq12] <;> omega) | rfl))))
  conv => whnf
  refine ⟨true, 30, fa, 0, 1, rfl, rfl, by decide, fun x hx => ?_, fun x hx => ?_, ?_⟩
  · simp only [fa, List.mem_cons, List.not_mem_nil, or_false] at hx
    rcases hx with rfl | rfl <;> exact ⟨by decide, by decide, fun _ => by decide⟩
  · simp only [fa, List.mem_cons, List.not_mem_nil, or_false] at hx
    rcases hx with rfl | rfl <;> exact dep0 ⟨rfl, rfl⟩ ⟨rfl, rfl⟩ ⟨rfl, rfl⟩
  rw [fa_why]
  repeat ((conv => whnf); (first | refine Cnd.yes ?_ | refine Cnd.no ?_ | refine And.intro rfl ?_ | refine And.intro (by omega) ?_ | (refine And.intro ?_ ?_; focus (simp only [IntKind.wrap_i64, IntKind.wrap_u64, IntKind.wrap_u32]; omega)) | (refine And.intro ?_ ?_; focus (simp only [zl1, zl2, zl3, zl4, zl5, zl6, zl7, zl8, zl9] <;> omega)) | refine Alt.std ?_ | (refine Cnd.tt ?_ ?_; focus (first | (apply decide_eq_true; omega) | (simp only [zq1, zq2, zq3, zq4, zq5, zq6, zq7, zq8, zq9, zq10, zq11, zq12] <;> omega) | rfl)) | (refine Cnd.ff ?_ ?_; focus (first | (apply decide_eq_false; omega) | (simp only [zq1, zq2, zq3, zq4, zq5, zq6, zq7, zq8, zq9, zq10, zq11, zq12] <;> omega) | rfl))))
  conv => whnf
  refine ⟨true, 30, fb, 0, 2, rfl, rfl, by decide, fun x hx => ?_, fun x hx => ?_, ?_⟩
  · simp only [fb, List.mem_cons, List.not_mem_nil, or_false] at hx
    rcases hx with rfl | rfl | rfl <;> exact ⟨by decide, by decide, fun _ => by decide⟩
  · simp only [fb, List.mem_cons, List.not_mem_nil, or_false] at hx
    rcases hx with rfl | rfl | rfl <;> exact dep0 ⟨rfl, rfl⟩ ⟨rfl, rfl⟩ ⟨rfl, rfl⟩
  rw [fb_why]
  repeat ((conv => whnf); (first | refine Cnd.yes ?_ | refine Cnd.no ?_ | refine And.intro rfl ?_ | refine And.intro (by omega) ?_ | (refine And.intro ?_ ?_; focus (simp only [IntKind.wrap_i64, IntKind.wrap_u64, IntKind.wrap_u32]; omega)) | (refine And.intro ?_ ?_; focus (simp only [zl1, zl2, zl3, zl4, zl5, zl6, zl7, zl8, zl9] <;> omega)) | refine Alt.std ?_ | (refine Cnd.tt ?_ ?_; focus (first | (apply decide_eq_true; omega) | (simp only [zq1, zq2, zq3, zq4, zq5, zq6, zq7, zq8, zq9, zq10, zq11, zq12] <;> omega) | rfl)) | (refine Cnd.ff ?_ ?_; focus (first | (apply decide_eq_false; omega) | (simp only [zq1, zq2, zq3, zq4, zq5, zq6, zq7, zq8, zq9, zq10, zq11, zq12] <;> omega) | rfl))))
  conv => whnf
  refine ⟨[], .v (.bool true), [], ?_⟩
  repeat ((conv => whnf); (first | refine Cnd.yes ?_ | refine Cnd.no ?_ | refine And.intro rfl ?_ | refine And.intro (by omega) ?_ | (refine And.intro ?_ ?_; focus (simp only [IntKind.wrap_i64, IntKind.wrap_u64, IntKind.wrap_u32]; omega)) | (refine And.intro ?_ ?_; focus (simp only [zl1, zl2, zl3, zl4, zl5, zl6, zl7, zl8, zl9] <;> omega)) | refine Alt.std ?_))
  conv => whnf
  exact hK
def firstS : Vc.Spec := fun args hp _ K => args = [] ∧ hp = [] ∧ K (.v (.bool true)) []
theorem first_ok : SOK Try.prog 8 firstS := by
  refine TOK.weaken (TOK.out (runF_eq G7_ok mixed at8.1 at8.2 pf8_eq)) fun args hp M K h => ?_
  obtain ⟨rfl, rfl, h⟩ := h
  exact first_run M K h
noncomputable def specs8 : Nat → Option Vc.Trans := tget [(8, frameT firstS), (12, frameT whyS), (13, frameT pairsS)]
noncomputable def G8 : Nat → Option Vc.Trans := tabG specs8 (tget tab) 5
theorem G8_ok : GOK Try.prog G8 := tabG_ok (GOK.cons (frame_ok first_ok) (GOK.cons (frame_ok why_ok) (GOK.cons (frame_ok pairs_ok) .nil))) tab_ok 5
end Go.Proofs.Ytkfkoldaeplckaa
