/-
  PpoMore, walked.
-/
import Derived.Test.YtkfkoldaeplckaaCv
namespace Go.Proofs.Ytkfkoldaeplckaa
open Go Go.Vc
set_option maxRecDepth 100000
set_option linter.unusedSimpArgs false
set_option linter.unusedVariables false
set_option maxHeartbeats 10000000
theorem number_run (M : HL) (K : SV → List Ent → HL → Prop) (hp : List Ent) (x b : Int) (hb : 0 < b) (hb2 : b ≤ 1000000) (hK : K (.v (.int .i64 (x % b))) hp M) : runF G0 pf10 [.v (.int .i64 x), .v (.int .i64 b)] hp M K := by
  have h1 : -b < Int.tmod x b := Int.lt_tmod_of_pos x hb
  have h2 : Int.tmod x b < b := Int.tmod_lt_of_pos x hb
  have e : IntKind.i64.wrap (Int.tmod x b + b) = Int.tmod x b + b := by rw [IntKind.wrap_i64]; omega
  have e2 : Int.tmod (Int.tmod x b + b) b = x % b := by
    rw [Int.tmod_eq_emod_of_nonneg (by omega), Int.add_emod_right]
    have := Int.mul_tdiv_add_tmod x b
    conv => rhs; rw [← this]
    rw [Int.add_comm, Int.add_mul_emod_self_left]
  repeat ((conv => whnf); (first | refine Cnd.yes ?_ | refine Cnd.no ?_ | refine And.intro rfl ?_ | refine And.intro (by omega) ?_ | (refine And.intro ?_ ?_; focus (simp only [IntKind.wrap_i64, IntKind.wrap_u64, IntKind.wrap_u32]; omega)) | (refine And.intro ?_ ?_; focus (simp only [zl1, zl2, zl3, zl4, zl5, zl6, zl7, zl8, zl9] <;> omega)) | refine Alt.std ?_))
  conv => whnf
  rw [e]
  repeat ((conv => whnf); (first | refine Cnd.yes ?_ | refine Cnd.no ?_ | refine And.intro rfl ?_ | refine And.intro (by omega) ?_ | (refine And.intro ?_ ?_; focus (simp only [IntKind.wrap_i64, IntKind.wrap_u64, IntKind.wrap_u32]; omega)) | (refine And.intro ?_ ?_; focus (simp only [zl1, zl2, zl3, zl4, zl5, zl6, zl7, zl8, zl9] <;> omega)) | refine Alt.std ?_))
  conv => whnf
  rw [e2]
  exact hK
def numS : Vc.Spec := fun args hp _ K => ∃ x b : Int, args = [.v (.int .i64 x), .v (.int .i64 b)] ∧ 0 < b ∧ b ≤ 1000000 ∧ K (.v (.int .i64 (x % b))) hp
theorem num_ok : SOK Try.prog 10 numS := by
  refine TOK.weaken (runF_eq G0_ok mixed at10.1 at10.2 pf10_eq) fun args hp M K h => ?_
  obtain ⟨x, b, rfl, h1, h2, h3⟩ := h
  exact number_run M K hp x b h1 h2 h3
noncomputable def specsW : Nat → Option Vc.Trans := tget [(8, frameT firstS), (9, frameT fitS), (10, frameT numS), (11, frameM opsT), (12, frameT whyS)]
noncomputable def GW : Nat → Option Vc.Trans := tabG specsW (tget tab) 5
theorem GW_ok : GOK Try.prog GW := tabG_ok (GOK.cons (frame_ok first_ok) (GOK.cons (frame_ok fit_ok) (GOK.cons (frame_ok num_ok) (GOK.cons (frameM_ok ops_ok) (GOK.cons (frame_ok why_ok) .nil))))) tab_ok 5
theorem get_eq {α : Type} (l : List α) {j : Nat} (d : α) (h : j < l.length) : l.getD j d = l[j] := by simp [List.getD, h]
theorem op_set (l : List Op) {i : Nat} (hi : i < l.length) (f : Nat) (vs : List Value) (x' : Op) (h : over (orow (l.getD i default)) f vs = orow x') :
    (l.map orow).set (0 + (i : Int).toNat) (over ((l.map orow).getD (0 + (i : Int).toNat) []) f vs) = (l.set i x').map orow := by
  rw [Nat.zero_add, Int.toNat_natCast, List.map_set, ← h]
  congr 1
  rw [get_eq _ _ (by simpa using hi), get_eq _ _ hi, List.getElem_map]
theorem get_set (l : List Op) {i : Nat} (hi : i < l.length) (j : Nat) (x : Op) : (l.set i x).getD j default = if j = i then x else l.getD j default := by
  simp only [List.getD, List.getElem?_set]
  by_cases h : i = j
  · subst h; rw [if_pos rfl, if_pos rfl, if_pos hi]; rfl
  · rw [if_neg h, if_neg fun hh => h hh.symm]
/-- The second list holds the first and may be walked. -/
structure Good (M : HL) (l m : List Op) : Prop where
  len : m.length = l.length
  more : Mores l m
  fit : ∀ x ∈ m, Fit x
  deps : Deps M m
theorem fit_more {x x' : Op} (h : Fit x) (hm : More x x') : Fit x' := by
  unfold Fit at h ⊢
  rw [hm.ad, hm.k, hm.sz]
  exact h
theorem good_of {M : HL} {l m : List Op} (hl : m.length = l.length) (hf : ∀ x ∈ l, Fit x) (h : ∀ j : Nat, j < l.length → More (l.getD j default) (m.getD j default) ∧ OIn M (m.getD j default) ∧ (m.getD j default).da.length ≤ 1000000 ∧ (m.getD j default).dd.length ≤ 1000000 ∧ (m.getD j default).dc.length ≤ 1000000) : Good M l m := by
  have hm : ∀ x ∈ m, ∃ j : Nat, j < l.length ∧ m.getD j default = x := fun x hx => by
    obtain ⟨j, hj, rfl⟩ := List.getElem_of_mem hx
    exact ⟨j, by omega, get_eq _ _ hj⟩
  refine ⟨hl, ⟨hl.symm, fun j => ?_⟩, fun x hx => ?_, fun x hx => ?_⟩
  · by_cases hj : j < l.length
    · exact (h j hj).1
    · have h1 : l.getD j default = default := by simp [List.getD, List.getElem?_eq_none (show l.length ≤ j by omega)]
      have h2 : m.getD j default = default := by simp [List.getD, List.getElem?_eq_none (show m.length ≤ j by omega)]
      rw [h1, h2]
      exact More.refl _
  · obtain ⟨j, hj, rfl⟩ := hm x hx
    exact fit_more (hf (l.getD j default) (by simp [List.getD, hj])) (h j hj).1
  · obtain ⟨j, hj, rfl⟩ := hm x hx
    exact (h j hj).2
theorem copy_more {M : HL} {x x' : Op} (h : Copy M x x') : More x x' := by
  obtain ⟨h, _, _, _⟩ := h
  rw [h]
  exact ⟨rfl, rfl, rfl, rfl, id, id, fun _ => id, fun _ => id, fun _ => id, fun _ => id, fun _ => id⟩
theorem copy_in {M : HL} {x x' : Op} (h : Copy M x x') : OIn M x' ∧ x'.da = x.da ∧ x'.dd = x.dd ∧ x'.dc = x.dc := by
  obtain ⟨h, h1, h2, h3⟩ := h
  rw [h] at h1 h2 h3 ⊢
  exact ⟨⟨⟨3, h1.1⟩, ⟨3, h2.1⟩, ⟨3, h3.1⟩⟩, rfl, rfl, rfl⟩
/-- Copies, one of them changed. -/
theorem good_set {M M' : HL} {l m : List Op} (hC : Copies M l m l.length) (hM : FLe M M') (hf : ∀ x ∈ l, Fit x) (hs : ∀ x ∈ l, Short x) {i : Nat} (hi : i < l.length) {x' : Op} (hx : More (m.getD i default) x') (hO : OIn M' x') (h1 : x'.da.length ≤ 41) (h2 : x'.dd.length ≤ 41) (h3 : x'.dc.length ≤ 41) : Good M' l (m.set i x') := by
  have him : i < m.length := by rw [hC.1]; exact hi
  refine good_of (by rw [List.length_set]; exact hC.1) hf fun j hj => ?_
  have hc := hC.2 j hj
  have hm := copy_more hc
  obtain ⟨k1, k2, k3, k4⟩ := copy_in hc
  obtain ⟨s1, s2, s3⟩ := hs (l.getD j default) (by simp [List.getD, hj])
  rw [get_set m him]
  by_cases h : j = i
  · subst h
    rw [if_pos rfl]
    refine ⟨⟨hx.k.trans hm.k, hx.sz.trans hm.sz, hx.ad.trans hm.ad, hx.pr.trans hm.pr, fun h => hx.aq (hm.aq h), fun h => hx.rl (hm.rl h), fun z h => hx.pd z (hm.pd z h), fun z h => hx.sc z (hm.sc z h), fun a h => hx.da a (hm.da a h), fun a h => hx.dd a (hm.dd a h), fun a h => hx.dc a (hm.dc a h)⟩, hO, by omega, by omega, by omega⟩
  · rw [if_neg h]
    exact ⟨hm, k1.mono hM, by rw [k2]; omega, by rw [k3]; omega, by rw [k4]; omega⟩
theorem good_same {M : HL} {l m : List Op} (hC : Copies M l m l.length) (hf : ∀ x ∈ l, Fit x) (hs : ∀ x ∈ l, Short x) : Good M l m := by
  refine good_of hC.1 hf fun j hj => ?_
  have hc := hC.2 j hj
  obtain ⟨k1, k2, k3, k4⟩ := copy_in hc
  obtain ⟨s1, s2, s3⟩ := hs (l.getD j default) (by simp [List.getD, hj])
  exact ⟨copy_more hc, k1, by rw [k2]; omega, by rw [k3]; omega, by rw [k4]; omega⟩
theorem app_rows (d : List Int) (v : Int) : List.take ((List.map irow d).length + 1) (List.drop 0 (List.map irow d ++ List.take 1 (List.drop 0 [[Value.int .i64 v]]))) = (d ++ [v]).map irow := by
  rw [List.drop_zero, List.take_of_length_le (by simp), List.map_append]
  rfl
theorem more_run (M : HL) (K : SV → List Ent → HL → Prop) (e : TypeId) (l : List Op) (w1 w2 : Int) (hl : l.length ≤ 9223372036854775807) (hO : ∀ x ∈ l, OIn M x) (hU : ∀ x ∈ l, 0 ≤ x.ad ∧ x.ad < 4294967296) (hK : ∀ hp M', FLe M M' → K (.v (.bool true)) hp M') :
    runF GW pf3 [.slc 0 13 0 l.length, .v (.int .i64 w1), .v (.int .i64 w2)] [.row false e ock (l.map orow)] M K := by
  repeat ((conv => whnf); (first | refine Cnd.yes ?_ | refine Cnd.no ?_ | refine And.intro rfl ?_ | refine And.intro (by omega) ?_ | (refine And.intro ?_ ?_; focus (simp only [IntKind.wrap_i64, IntKind.wrap_u64, IntKind.wrap_u32]; omega)) | (refine And.intro ?_ ?_; focus (simp only [zl1, zl2, zl3, zl4, zl5, zl6, zl7, zl8, zl9] <;> omega)) | refine Alt.std ?_ | (refine Cnd.tt ?_ ?_; focus (first | (apply decide_eq_true; omega) | (simp only [zq1, zq2, zq3, zq4, zq5, zq6, zq7, zq8, zq9, zq10, zq11, zq12] <;> omega) | rfl)) | (refine Cnd.ff ?_ ?_; focus (first | (apply decide_eq_false; omega) | (simp only [zq1, zq2, zq3, zq4, zq5, zq6, zq7, zq8, zq9, zq10, zq11, zq12] <;> omega) | rfl))))
  conv => whnf
  refine ⟨e, l, rfl, rfl, hl, hO, fun b hb => ?_⟩
  cases b with
  | false =>
    repeat ((conv => whnf); (first | refine Cnd.yes ?_ | refine Cnd.no ?_ | refine And.intro rfl ?_ | refine And.intro (by omega) ?_ | (refine And.intro ?_ ?_; focus (simp only [IntKind.wrap_i64, IntKind.wrap_u64, IntKind.wrap_u32]; omega)) | (refine And.intro ?_ ?_; focus (simp only [zl1, zl2, zl3, zl4, zl5, zl6, zl7, zl8, zl9] <;> omega)) | refine Alt.std ?_ | (refine Cnd.tt ?_ ?_; focus (first | (apply decide_eq_true; omega) | (simp only [zq1, zq2, zq3, zq4, zq5, zq6, zq7, zq8, zq9, zq10, zq11, zq12] <;> omega) | rfl)) | (refine Cnd.ff ?_ ?_; focus (first | (apply decide_eq_false; omega) | (simp only [zq1, zq2, zq3, zq4, zq5, zq6, zq7, zq8, zq9, zq10, zq11, zq12] <;> omega) | rfl))))
    conv => whnf
    exact hK _ _ (FLe.refl _)
  | true =>
    have hsz := hb rfl
    by_cases h0 : l.length = 0
    · repeat ((conv => whnf); (first | refine Cnd.yes ?_ | refine Cnd.no ?_ | refine And.intro rfl ?_ | refine And.intro (by omega) ?_ | (refine And.intro ?_ ?_; focus (simp only [IntKind.wrap_i64, IntKind.wrap_u64, IntKind.wrap_u32]; omega)) | (refine And.intro ?_ ?_; focus (simp only [zl1, zl2, zl3, zl4, zl5, zl6, zl7, zl8, zl9] <;> omega)) | refine Alt.std ?_ | (refine Cnd.tt ?_ ?_; focus (first | (apply decide_eq_true; omega) | (simp only [zq1, zq2, zq3, zq4, zq5, zq6, zq7, zq8, zq9, zq10, zq11, zq12] <;> omega) | rfl)) | (refine Cnd.ff ?_ ?_; focus (first | (apply decide_eq_false; omega) | (simp only [zq1, zq2, zq3, zq4, zq5, zq6, zq7, zq8, zq9, zq10, zq11, zq12] <;> omega) | rfl))))
      conv => whnf
      exact hK _ _ (FLe.refl _)
    · by_cases h30 : 30 < l.length
      · repeat ((conv => whnf); (first | refine Cnd.yes ?_ | refine Cnd.no ?_ | refine And.intro rfl ?_ | refine And.intro (by omega) ?_ | (refine And.intro ?_ ?_; focus (simp only [IntKind.wrap_i64, IntKind.wrap_u64, IntKind.wrap_u32]; omega)) | (refine And.intro ?_ ?_; focus (simp only [zl1, zl2, zl3, zl4, zl5, zl6, zl7, zl8, zl9] <;> omega)) | refine Alt.std ?_ | (refine Cnd.tt ?_ ?_; focus (first | (apply decide_eq_true; omega) | (simp only [zq1, zq2, zq3, zq4, zq5, zq6, zq7, zq8, zq9, zq10, zq11, zq12] <;> omega) | rfl)) | (refine Cnd.ff ?_ ?_; focus (first | (apply decide_eq_false; omega) | (simp only [zq1, zq2, zq3, zq4, zq5, zq6, zq7, zq8, zq9, zq10, zq11, zq12] <;> omega) | rfl))))
        conv => whnf
        exact hK _ _ (FLe.refl _)
      · have hF : ∀ x ∈ l, Fit x := fun x hx => ⟨(hU x hx).1, (hU x hx).2, fun h4 => by
          rcases (hsz x hx).2 h4 with h | h | h <;> rw [h] <;> decide⟩
        have hS : ∀ x ∈ l, Short x := fun x hx => (hsz x hx).1
        have hDl : Deps M l := fun x hx => ⟨hO x hx, by have := (hS x hx).1; omega, by have := (hS x hx).2.1; omega, by have := (hS x hx).2.2; omega⟩
        repeat ((conv => whnf); (first | refine Cnd.yes ?_ | refine Cnd.no ?_ | refine And.intro rfl ?_ | refine And.intro (by omega) ?_ | (refine And.intro ?_ ?_; focus (simp only [IntKind.wrap_i64, IntKind.wrap_u64, IntKind.wrap_u32]; omega)) | (refine And.intro ?_ ?_; focus (simp only [zl1, zl2, zl3, zl4, zl5, zl6, zl7, zl8, zl9] <;> omega)) | refine Alt.std ?_ | (refine Cnd.tt ?_ ?_; focus (first | (apply decide_eq_true; omega) | (simp only [zq1, zq2, zq3, zq4, zq5, zq6, zq7, zq8, zq9, zq10, zq11, zq12] <;> omega) | rfl)) | (refine Cnd.ff ?_ ?_; focus (first | (apply decide_eq_false; omega) | (simp only [zq1, zq2, zq3, zq4, zq5, zq6, zq7, zq8, zq9, zq10, zq11, zq12] <;> omega) | rfl))))
        conv => whnf
        refine ⟨w1, l.length, rfl, by omega, by omega, ?_⟩
        obtain ⟨i, hi⟩ : ∃ i : Nat, (i : Int) = w1 % l.length := ⟨(w1 % l.length).toNat, Int.toNat_of_nonneg (Int.emod_nonneg _ (by omega))⟩
        have hil : i < l.length := by have := Int.emod_lt_of_pos w1 (show (0 : Int) < l.length by omega); omega
        rw [← hi]
        repeat ((conv => whnf); (first | refine Cnd.yes ?_ | refine Cnd.no ?_ | refine And.intro rfl ?_ | refine And.intro (by omega) ?_ | (refine And.intro ?_ ?_; focus (simp only [IntKind.wrap_i64, IntKind.wrap_u64, IntKind.wrap_u32]; omega)) | (refine And.intro ?_ ?_; focus (simp only [zl1, zl2, zl3, zl4, zl5, zl6, zl7, zl8, zl9] <;> omega)) | refine Alt.std ?_ | (refine Cnd.tt ?_ ?_; focus (first | (apply decide_eq_true; omega) | (simp only [zq1, zq2, zq3, zq4, zq5, zq6, zq7, zq8, zq9, zq10, zq11, zq12] <;> omega) | rfl)) | (refine Cnd.ff ?_ ?_; focus (first | (apply decide_eq_false; omega) | (simp only [zq1, zq2, zq3, zq4, zq5, zq6, zq7, zq8, zq9, zq10, zq11, zq12] <;> omega) | rfl))))
        conv => whnf
        refine ⟨false, e, l, rfl, rfl, by omega, fun x hx => ⟨hO x hx, by have := (hS x hx).1; omega, by have := (hS x hx).2.1; omega, by have := (hS x hx).2.2; omega⟩, fun M1 m hM1 hC => ?_⟩
        have hml : m.length = l.length := hC.1
        have hG := good_same hC hF hS
        repeat ((conv => whnf); (first | refine Cnd.yes ?_ | refine Cnd.no ?_ | refine And.intro rfl ?_ | refine And.intro (by omega) ?_ | (refine And.intro ?_ ?_; focus (simp only [IntKind.wrap_i64, IntKind.wrap_u64, IntKind.wrap_u32]; omega)) | (refine And.intro ?_ ?_; focus (simp only [zl1, zl2, zl3, zl4, zl5, zl6, zl7, zl8, zl9] <;> omega)) | refine Alt.std ?_ | (refine Cnd.tt ?_ ?_; focus (first | (apply decide_eq_true; omega) | (simp only [zq1, zq2, zq3, zq4, zq5, zq6, zq7, zq8, zq9, zq10, zq11, zq12] <;> omega) | rfl)) | (refine Cnd.ff ?_ ?_; focus (first | (apply decide_eq_false; omega) | (simp only [zq1, zq2, zq3, zq4, zq5, zq6, zq7, zq8, zq9, zq10, zq11, zq12] <;> omega) | rfl))))
        conv => whnf
        refine ⟨w2, 5, rfl, by omega, by omega, ?_⟩
        obtain ⟨q, hq⟩ : ∃ q : Nat, (q : Int) = w2 % 5 := ⟨(w2 % 5).toNat, by omega⟩
        rw [← hq]
        obtain ⟨x, hx⟩ : ∃ x, m.getD i default = x := ⟨_, rfl⟩
        have hxi : m.getD (0 + (i : Int).toNat) default = x := by rw [Nat.zero_add, Int.toNat_natCast]; exact hx
        have hc : ∀ k, cellAt (m.map orow) (0 + (i : Int).toNat) k = (orow x).getD k undef := fun k => by
          rw [← hx, Nat.zero_add, Int.toNat_natCast]
          simp [cellAt, List.getD, show i < m.length by omega]
        have hcx := hC.2 i hil
        obtain ⟨k1, k2, k3, k4⟩ := copy_in hcx
        obtain ⟨s1, s2, s3⟩ := hS (l.getD i default) (by simp [List.getD, hil])
        have hfa := hcx.a
        have hfc := hcx.c
        rw [← k2] at hfa s1
        rw [← k3] at s2
        rw [← k4] at hfc s3
        rw [hx] at k1 hfa hfc s1 s2 s3
        clear hcx k2 k3 k4
        have him : i < m.length := by omega
        have e10 : cellAt (m.map orow) (0 + (i : Int).toNat) (0 + 10) = x.ya := hc 10
        have e12 : cellAt (m.map orow) (0 + (i : Int).toNat) (0 + 12) = x.yc := hc 12
        have e0 : toI (cellAt (m.map orow) (0 + (i : Int).toNat) (0 + 0)) = x.k := by rw [hc]; rfl
        rcases (show q = 0 ∨ q = 1 ∨ q = 2 ∨ q = 3 ∨ q = 4 by omega) with rfl | rfl | rfl | rfl | rfl
        · have hG' : Good M1 l (m.set i { x with aq := true }) := good_set hC (FLe.refl _) hF hS hil (hx ▸ ⟨rfl, rfl, rfl, rfl, fun _ => rfl, id, fun _ => id, fun _ => id, fun _ => id, fun _ => id, fun _ => id⟩) ⟨k1.a, k1.d, k1.c⟩ (show x.da.length ≤ 41 by omega) (show x.dd.length ≤ 41 by omega) (show x.dc.length ≤ 41 by omega)
          have hs := op_set m him 6 [.bool true] { x with aq := true } (by rw [hx]; rfl)
          generalize m.set i { x with aq := true } = m' at hs hG'
          repeat ((conv => whnf); (first | refine Cnd.yes ?_ | refine Cnd.no ?_ | refine And.intro rfl ?_ | refine And.intro (by omega) ?_ | (refine And.intro ?_ ?_; focus (simp only [IntKind.wrap_i64, IntKind.wrap_u64, IntKind.wrap_u32]; omega)) | (refine And.intro ?_ ?_; focus (simp only [zl1, zl2, zl3, zl4, zl5, zl6, zl7, zl8, zl9] <;> omega)) | refine Alt.std ?_ | (refine Cnd.tt ?_ ?_; focus (first | (apply decide_eq_true; omega) | (simp only [zq1, zq2, zq3, zq4, zq5, zq6, zq7, zq8, zq9, zq10, zq11, zq12] <;> omega) | rfl)) | (refine Cnd.ff ?_ ?_; focus (first | (apply decide_eq_false; omega) | (simp only [zq1, zq2, zq3, zq4, zq5, zq6, zq7, zq8, zq9, zq10, zq11, zq12] <;> omega) | rfl))))
          conv => whnf
          refine ⟨InvS 126 (fun s : Nat => l.length - s) (fun s : Nat => s ≤ l.length) (fun s : Nat => [(0, .slc 0 13 0 l.length), (8, .slc 1 13 0 l.length), (9, .v (.int .i64 s))]) (fun s : Nat => [Ent.row false e ock (l.map orow), .row true 30 ock (m'.map orow)]) M1, ⟨(fun s : Nat => l.length - s) 0, [0, 1], tmk 126 0 ((fun s : Nat => [(0, .slc 0 13 0 l.length), (8, .slc 1 13 0 l.length), (9, .v (.int .i64 s))]) 0), (fun s : Nat => [Ent.row false e ock (l.map orow), .row true 30 ock (m'.map orow)]) 0, ?_⟩, ?_⟩
          · repeat ((conv => whnf); (first | refine Cnd.yes ?_ | refine Cnd.no ?_ | refine And.intro rfl ?_ | refine And.intro (by omega) ?_ | (refine And.intro ?_ ?_; focus (simp only [IntKind.wrap_i64, IntKind.wrap_u64, IntKind.wrap_u32]; omega)) | (refine And.intro ?_ ?_; focus (simp only [zl1, zl2, zl3, zl4, zl5, zl6, zl7, zl8, zl9] <;> omega)) | refine Alt.std ?_))
            conv => whnf
            try refine ⟨hs, ?_⟩
            repeat ((conv => whnf); (first | refine Cnd.yes ?_ | refine Cnd.no ?_ | refine And.intro rfl ?_ | refine And.intro (by omega) ?_ | (refine And.intro ?_ ?_; focus (simp only [IntKind.wrap_i64, IntKind.wrap_u64, IntKind.wrap_u32]; omega)) | (refine And.intro ?_ ?_; focus (simp only [zl1, zl2, zl3, zl4, zl5, zl6, zl7, zl8, zl9] <;> omega)) | refine Alt.std ?_))
            conv => whnf
            exact ⟨0, Nat.zero_le _, rfl, rfl, (tmkK_eq _ _ _ _).mpr rfl, rfl⟩
          · rintro cnt tm hp M1 ⟨j, hC_, rfl, rfl, htm, hhp_⟩
            replace hC_ : j ≤ l.length := hC_
            have hj := hC_
            replace htm : tmkK 126 0 [(0, .slc 0 13 0 l.length), (8, .slc 1 13 0 l.length), (9, .v (.int .i64 j))] (fun l => tm = l) := htm
            conv at htm => whnf
            subst htm
            replace hhp_ : hp = [Ent.row false e ock (l.map orow), .row true 30 ock (m'.map orow)] := hhp_
            subst hhp_
            repeat ((conv => whnf); (first | refine Cnd.yes ?_ | refine Cnd.no ?_ | refine And.intro rfl ?_ | refine And.intro (by omega) ?_ | (refine And.intro ?_ ?_; focus (simp only [IntKind.wrap_i64, IntKind.wrap_u64, IntKind.wrap_u32]; omega)) | (refine And.intro ?_ ?_; focus (simp only [zl1, zl2, zl3, zl4, zl5, zl6, zl7, zl8, zl9] <;> omega)) | refine Alt.std ?_ | (refine Cnd.tt ?_ ?_; focus (first | (apply decide_eq_true; omega) | (simp only [zq1, zq2, zq3, zq4, zq5, zq6, zq7, zq8, zq9, zq10, zq11, zq12] <;> omega) | rfl)) | (refine Cnd.ff ?_ ?_; focus (first | (apply decide_eq_false; omega) | (simp only [zq1, zq2, zq3, zq4, zq5, zq6, zq7, zq8, zq9, zq10, zq11, zq12] <;> omega) | rfl))))
            conv => whnf
            refine Cnd.mk (fun hlt => ?_) fun hge => ?_
            · have hjl : j < l.length := by have := of_decide_eq_true hlt; omega
              repeat ((conv => whnf); (first | refine Cnd.yes ?_ | refine Cnd.no ?_ | refine And.intro rfl ?_ | refine And.intro (by omega) ?_ | (refine And.intro ?_ ?_; focus (simp only [IntKind.wrap_i64, IntKind.wrap_u64, IntKind.wrap_u32]; omega)) | (refine And.intro ?_ ?_; focus (simp only [zl1, zl2, zl3, zl4, zl5, zl6, zl7, zl8, zl9] <;> omega)) | refine Alt.std ?_ | (refine Cnd.tt ?_ ?_; focus (first | (apply decide_eq_true; omega) | (simp only [zq1, zq2, zq3, zq4, zq5, zq6, zq7, zq8, zq9, zq10, zq11, zq12] <;> omega) | rfl)) | (refine Cnd.ff ?_ ?_; focus (first | (apply decide_eq_false; omega) | (simp only [zq1, zq2, zq3, zq4, zq5, zq6, zq7, zq8, zq9, zq10, zq11, zq12] <;> omega) | rfl))))
              conv => whnf
              refine ⟨InvS 126 (fun s : Nat => l.length - s) (fun s : Nat => j < s ∧ s ≤ l.length) (fun s : Nat => [(0, .slc 0 13 0 l.length), (8, .slc 1 13 0 l.length), (9, .v (.int .i64 j)), (10, .v (.int .i64 s))]) (fun s : Nat => [Ent.row false e ock (l.map orow), .row true 30 ock (m'.map orow)]) M1, ⟨(fun s : Nat => l.length - s) (j + 1), [0, 1], tmk 126 0 ((fun s : Nat => [(0, .slc 0 13 0 l.length), (8, .slc 1 13 0 l.length), (9, .v (.int .i64 j)), (10, .v (.int .i64 s))]) (j + 1)), (fun s : Nat => [Ent.row false e ock (l.map orow), .row true 30 ock (m'.map orow)]) (j + 1), ?_⟩, ?_⟩
              · repeat ((conv => whnf); (first | refine Cnd.yes ?_ | refine Cnd.no ?_ | refine And.intro rfl ?_ | refine And.intro (by omega) ?_ | (refine And.intro ?_ ?_; focus (simp only [IntKind.wrap_i64, IntKind.wrap_u64, IntKind.wrap_u32]; omega)) | (refine And.intro ?_ ?_; focus (simp only [zl1, zl2, zl3, zl4, zl5, zl6, zl7, zl8, zl9] <;> omega)) | refine Alt.std ?_))
                conv => whnf
                exact ⟨j + 1, ⟨Nat.lt_succ_self j, hjl⟩, rfl, rfl, (tmkK_eq _ _ _ _).mpr rfl, rfl⟩
              · rintro cnt tm hp M1 ⟨k, hC_, rfl, rfl, htm, hhp_⟩
                replace hC_ : j < k ∧ k ≤ l.length := hC_
                obtain ⟨hjk, hk⟩ := hC_
                replace htm : tmkK 126 0 [(0, .slc 0 13 0 l.length), (8, .slc 1 13 0 l.length), (9, .v (.int .i64 j)), (10, .v (.int .i64 k))] (fun l => tm = l) := htm
                conv at htm => whnf
                subst htm
                replace hhp_ : hp = [Ent.row false e ock (l.map orow), .row true 30 ock (m'.map orow)] := hhp_
                subst hhp_
                repeat ((conv => whnf); (first | refine Cnd.yes ?_ | refine Cnd.no ?_ | refine And.intro rfl ?_ | refine And.intro (by omega) ?_ | (refine And.intro ?_ ?_; focus (simp only [IntKind.wrap_i64, IntKind.wrap_u64, IntKind.wrap_u32]; omega)) | (refine And.intro ?_ ?_; focus (simp only [zl1, zl2, zl3, zl4, zl5, zl6, zl7, zl8, zl9] <;> omega)) | refine Alt.std ?_ | (refine Cnd.tt ?_ ?_; focus (first | (apply decide_eq_true; omega) | (simp only [zq1, zq2, zq3, zq4, zq5, zq6, zq7, zq8, zq9, zq10, zq11, zq12] <;> omega) | rfl)) | (refine Cnd.ff ?_ ?_; focus (first | (apply decide_eq_false; omega) | (simp only [zq1, zq2, zq3, zq4, zq5, zq6, zq7, zq8, zq9, zq10, zq11, zq12] <;> omega) | rfl))))
                conv => whnf
                refine Cnd.mk (fun hlt2 => ?_) fun hge2 => ?_
                · have hkl : k < l.length := by have := of_decide_eq_true hlt2; omega
                  repeat ((conv => whnf); (first | refine Cnd.yes ?_ | refine Cnd.no ?_ | refine And.intro rfl ?_ | refine And.intro (by omega) ?_ | (refine And.intro ?_ ?_; focus (simp only [IntKind.wrap_i64, IntKind.wrap_u64, IntKind.wrap_u32]; omega)) | (refine And.intro ?_ ?_; focus (simp only [zl1, zl2, zl3, zl4, zl5, zl6, zl7, zl8, zl9] <;> omega)) | refine Alt.std ?_ | (refine Cnd.tt ?_ ?_; focus (first | (apply decide_eq_true; omega) | (simp only [zq1, zq2, zq3, zq4, zq5, zq6, zq7, zq8, zq9, zq10, zq11, zq12] <;> omega) | rfl)) | (refine Cnd.ff ?_ ?_; focus (first | (apply decide_eq_false; omega) | (simp only [zq1, zq2, zq3, zq4, zq5, zq6, zq7, zq8, zq9, zq10, zq11, zq12] <;> omega) | rfl))))
                  conv => whnf
                  refine ⟨false, e, l, j, k, rfl, rfl, by omega, hF, hDl.mono hM1, ?_⟩
                  repeat ((conv => whnf); (first | refine Cnd.yes ?_ | refine Cnd.no ?_ | refine And.intro rfl ?_ | refine And.intro (by omega) ?_ | (refine And.intro ?_ ?_; focus (simp only [IntKind.wrap_i64, IntKind.wrap_u64, IntKind.wrap_u32]; omega)) | (refine And.intro ?_ ?_; focus (simp only [zl1, zl2, zl3, zl4, zl5, zl6, zl7, zl8, zl9] <;> omega)) | refine Alt.std ?_ | (refine Cnd.tt ?_ ?_; focus (first | (apply decide_eq_true; omega) | (simp only [zq1, zq2, zq3, zq4, zq5, zq6, zq7, zq8, zq9, zq10, zq11, zq12] <;> omega) | rfl)) | (refine Cnd.ff ?_ ?_; focus (first | (apply decide_eq_false; omega) | (simp only [zq1, zq2, zq3, zq4, zq5, zq6, zq7, zq8, zq9, zq10, zq11, zq12] <;> omega) | rfl))))
                  conv => whnf
                  refine Cnd.mk (fun hp => ?_) fun hp => ?_
                  · have hw := why_more hG'.more j k hjk hkl (of_decide_eq_true hp)
                    repeat ((conv => whnf); (first | refine Cnd.yes ?_ | refine Cnd.no ?_ | refine And.intro rfl ?_ | refine And.intro (by omega) ?_ | (refine And.intro ?_ ?_; focus (simp only [IntKind.wrap_i64, IntKind.wrap_u64, IntKind.wrap_u32]; omega)) | (refine And.intro ?_ ?_; focus (simp only [zl1, zl2, zl3, zl4, zl5, zl6, zl7, zl8, zl9] <;> omega)) | refine Alt.std ?_ | (refine Cnd.tt ?_ ?_; focus (first | (apply decide_eq_true; omega) | (simp only [zq1, zq2, zq3, zq4, zq5, zq6, zq7, zq8, zq9, zq10, zq11, zq12] <;> omega) | rfl)) | (refine Cnd.ff ?_ ?_; focus (first | (apply decide_eq_false; omega) | (simp only [zq1, zq2, zq3, zq4, zq5, zq6, zq7, zq8, zq9, zq10, zq11, zq12] <;> omega) | rfl))))
                    conv => whnf
                    refine ⟨true, 30, m', j, k, by rw [hG'.len], rfl, by rw [hG'.len]; omega, hG'.fit, hG'.deps, ?_⟩
                    repeat ((conv => whnf); (first | refine Cnd.yes ?_ | refine Cnd.no ?_ | refine And.intro rfl ?_ | refine And.intro (by omega) ?_ | (refine And.intro ?_ ?_; focus (simp only [IntKind.wrap_i64, IntKind.wrap_u64, IntKind.wrap_u32]; omega)) | (refine And.intro ?_ ?_; focus (simp only [zl1, zl2, zl3, zl4, zl5, zl6, zl7, zl8, zl9] <;> omega)) | refine Alt.std ?_ | (refine Cnd.tt ?_ ?_; focus (first | (apply decide_eq_true; omega) | (simp only [zq1, zq2, zq3, zq4, zq5, zq6, zq7, zq8, zq9, zq10, zq11, zq12] <;> omega) | rfl)) | (refine Cnd.ff ?_ ?_; focus (first | (apply decide_eq_false; omega) | (simp only [zq1, zq2, zq3, zq4, zq5, zq6, zq7, zq8, zq9, zq10, zq11, zq12] <;> omega) | rfl))))
                    conv => whnf
                    (refine ⟨(fun s : Nat => l.length - s) (k + 1), [0, 1], tmk 126 0 ((fun s : Nat => [(0, .slc 0 13 0 l.length), (8, .slc 1 13 0 l.length), (9, .v (.int .i64 j)), (10, .v (.int .i64 s))]) (k + 1)), (fun s : Nat => [Ent.row false e ock (l.map orow), .row true 30 ock (m'.map orow)]) (k + 1), ?_, ?_⟩; focus (first | (simp only []; omega) | omega))
                    repeat ((conv => whnf); (first | refine Cnd.yes ?_ | refine Cnd.no ?_ | refine And.intro rfl ?_ | refine And.intro (by omega) ?_ | (refine And.intro ?_ ?_; focus (simp only [IntKind.wrap_i64, IntKind.wrap_u64, IntKind.wrap_u32]; omega)) | (refine And.intro ?_ ?_; focus (simp only [zl1, zl2, zl3, zl4, zl5, zl6, zl7, zl8, zl9] <;> omega)) | refine Alt.std ?_))
                    conv => whnf
                    exact ⟨k + 1, ⟨by omega, hkl⟩, rfl, rfl, (tmkK_eq _ _ _ _).mpr rfl, rfl⟩
                  · repeat ((conv => whnf); (first | refine Cnd.yes ?_ | refine Cnd.no ?_ | refine And.intro rfl ?_ | refine And.intro (by omega) ?_ | (refine And.intro ?_ ?_; focus (simp only [IntKind.wrap_i64, IntKind.wrap_u64, IntKind.wrap_u32]; omega)) | (refine And.intro ?_ ?_; focus (simp only [zl1, zl2, zl3, zl4, zl5, zl6, zl7, zl8, zl9] <;> omega)) | refine Alt.std ?_ | (refine Cnd.tt ?_ ?_; focus (first | (apply decide_eq_true; omega) | (simp only [zq1, zq2, zq3, zq4, zq5, zq6, zq7, zq8, zq9, zq10, zq11, zq12] <;> omega) | rfl)) | (refine Cnd.ff ?_ ?_; focus (first | (apply decide_eq_false; omega) | (simp only [zq1, zq2, zq3, zq4, zq5, zq6, zq7, zq8, zq9, zq10, zq11, zq12] <;> omega) | rfl))))
                    conv => whnf
                    (refine ⟨(fun s : Nat => l.length - s) (k + 1), [0, 1], tmk 126 0 ((fun s : Nat => [(0, .slc 0 13 0 l.length), (8, .slc 1 13 0 l.length), (9, .v (.int .i64 j)), (10, .v (.int .i64 s))]) (k + 1)), (fun s : Nat => [Ent.row false e ock (l.map orow), .row true 30 ock (m'.map orow)]) (k + 1), ?_, ?_⟩; focus (first | (simp only []; omega) | omega))
                    repeat ((conv => whnf); (first | refine Cnd.yes ?_ | refine Cnd.no ?_ | refine And.intro rfl ?_ | refine And.intro (by omega) ?_ | (refine And.intro ?_ ?_; focus (simp only [IntKind.wrap_i64, IntKind.wrap_u64, IntKind.wrap_u32]; omega)) | (refine And.intro ?_ ?_; focus (simp only [zl1, zl2, zl3, zl4, zl5, zl6, zl7, zl8, zl9] <;> omega)) | refine Alt.std ?_))
                    conv => whnf
                    exact ⟨k + 1, ⟨by omega, hkl⟩, rfl, rfl, (tmkK_eq _ _ _ _).mpr rfl, rfl⟩
                · repeat ((conv => whnf); (first | refine Cnd.yes ?_ | refine Cnd.no ?_ | refine And.intro rfl ?_ | refine And.intro (by omega) ?_ | (refine And.intro ?_ ?_; focus (simp only [IntKind.wrap_i64, IntKind.wrap_u64, IntKind.wrap_u32]; omega)) | (refine And.intro ?_ ?_; focus (simp only [zl1, zl2, zl3, zl4, zl5, zl6, zl7, zl8, zl9] <;> omega)) | refine Alt.std ?_ | (refine Cnd.tt ?_ ?_; focus (first | (apply decide_eq_true; omega) | (simp only [zq1, zq2, zq3, zq4, zq5, zq6, zq7, zq8, zq9, zq10, zq11, zq12] <;> omega) | rfl)) | (refine Cnd.ff ?_ ?_; focus (first | (apply decide_eq_false; omega) | (simp only [zq1, zq2, zq3, zq4, zq5, zq6, zq7, zq8, zq9, zq10, zq11, zq12] <;> omega) | rfl))))
                  conv => whnf
                  (refine ⟨(fun s : Nat => l.length - s) (j + 1), [0, 1], tmk 126 0 ((fun s : Nat => [(0, .slc 0 13 0 l.length), (8, .slc 1 13 0 l.length), (9, .v (.int .i64 s))]) (j + 1)), (fun s : Nat => [Ent.row false e ock (l.map orow), .row true 30 ock (m'.map orow)]) (j + 1), ?_, ?_⟩; focus (first | (simp only []; omega) | omega))
                  repeat ((conv => whnf); (first | refine Cnd.yes ?_ | refine Cnd.no ?_ | refine And.intro rfl ?_ | refine And.intro (by omega) ?_ | (refine And.intro ?_ ?_; focus (simp only [IntKind.wrap_i64, IntKind.wrap_u64, IntKind.wrap_u32]; omega)) | (refine And.intro ?_ ?_; focus (simp only [zl1, zl2, zl3, zl4, zl5, zl6, zl7, zl8, zl9] <;> omega)) | refine Alt.std ?_))
                  conv => whnf
                  exact ⟨j + 1, hjl, rfl, rfl, (tmkK_eq _ _ _ _).mpr rfl, rfl⟩
            · repeat ((conv => whnf); (first | refine Cnd.yes ?_ | refine Cnd.no ?_ | refine And.intro rfl ?_ | refine And.intro (by omega) ?_ | (refine And.intro ?_ ?_; focus (simp only [IntKind.wrap_i64, IntKind.wrap_u64, IntKind.wrap_u32]; omega)) | (refine And.intro ?_ ?_; focus (simp only [zl1, zl2, zl3, zl4, zl5, zl6, zl7, zl8, zl9] <;> omega)) | refine Alt.std ?_ | (refine Cnd.tt ?_ ?_; focus (first | (apply decide_eq_true; omega) | (simp only [zq1, zq2, zq3, zq4, zq5, zq6, zq7, zq8, zq9, zq10, zq11, zq12] <;> omega) | rfl)) | (refine Cnd.ff ?_ ?_; focus (first | (apply decide_eq_false; omega) | (simp only [zq1, zq2, zq3, zq4, zq5, zq6, zq7, zq8, zq9, zq10, zq11, zq12] <;> omega) | rfl))))
              conv => whnf
              exact hK _ _ hM1
        · have hG' : Good M1 l (m.set i { x with rl := true }) := good_set hC (FLe.refl _) hF hS hil (hx ▸ ⟨rfl, rfl, rfl, rfl, id, fun _ => rfl, fun _ => id, fun _ => id, fun _ => id, fun _ => id, fun _ => id⟩) ⟨k1.a, k1.d, k1.c⟩ (show x.da.length ≤ 41 by omega) (show x.dd.length ≤ 41 by omega) (show x.dc.length ≤ 41 by omega)
          have hs := op_set m him 7 [.bool true] { x with rl := true } (by rw [hx]; rfl)
          generalize m.set i { x with rl := true } = m' at hs hG'
          repeat ((conv => whnf); (first | refine Cnd.yes ?_ | refine Cnd.no ?_ | refine And.intro rfl ?_ | refine And.intro (by omega) ?_ | (refine And.intro ?_ ?_; focus (simp only [IntKind.wrap_i64, IntKind.wrap_u64, IntKind.wrap_u32]; omega)) | (refine And.intro ?_ ?_; focus (simp only [zl1, zl2, zl3, zl4, zl5, zl6, zl7, zl8, zl9] <;> omega)) | refine Alt.std ?_ | (refine Cnd.tt ?_ ?_; focus (first | (apply decide_eq_true; omega) | (simp only [zq1, zq2, zq3, zq4, zq5, zq6, zq7, zq8, zq9, zq10, zq11, zq12] <;> omega) | rfl)) | (refine Cnd.ff ?_ ?_; focus (first | (apply decide_eq_false; omega) | (simp only [zq1, zq2, zq3, zq4, zq5, zq6, zq7, zq8, zq9, zq10, zq11, zq12] <;> omega) | rfl))))
          conv => whnf
          refine ⟨InvS 126 (fun s : Nat => l.length - s) (fun s : Nat => s ≤ l.length) (fun s : Nat => [(0, .slc 0 13 0 l.length), (8, .slc 1 13 0 l.length), (9, .v (.int .i64 s))]) (fun s : Nat => [Ent.row false e ock (l.map orow), .row true 30 ock (m'.map orow)]) M1, ⟨(fun s : Nat => l.length - s) 0, [0, 1], tmk 126 0 ((fun s : Nat => [(0, .slc 0 13 0 l.length), (8, .slc 1 13 0 l.length), (9, .v (.int .i64 s))]) 0), (fun s : Nat => [Ent.row false e ock (l.map orow), .row true 30 ock (m'.map orow)]) 0, ?_⟩, ?_⟩
          · repeat ((conv => whnf); (first | refine Cnd.yes ?_ | refine Cnd.no ?_ | refine And.intro rfl ?_ | refine And.intro (by omega) ?_ | (refine And.intro ?_ ?_; focus (simp only [IntKind.wrap_i64, IntKind.wrap_u64, IntKind.wrap_u32]; omega)) | (refine And.intro ?_ ?_; focus (simp only [zl1, zl2, zl3, zl4, zl5, zl6, zl7, zl8, zl9] <;> omega)) | refine Alt.std ?_))
            conv => whnf
            try refine ⟨hs, ?_⟩
            repeat ((conv => whnf); (first | refine Cnd.yes ?_ | refine Cnd.no ?_ | refine And.intro rfl ?_ | refine And.intro (by omega) ?_ | (refine And.intro ?_ ?_; focus (simp only [IntKind.wrap_i64, IntKind.wrap_u64, IntKind.wrap_u32]; omega)) | (refine And.intro ?_ ?_; focus (simp only [zl1, zl2, zl3, zl4, zl5, zl6, zl7, zl8, zl9] <;> omega)) | refine Alt.std ?_))
            conv => whnf
            exact ⟨0, Nat.zero_le _, rfl, rfl, (tmkK_eq _ _ _ _).mpr rfl, rfl⟩
          · rintro cnt tm hp M1 ⟨j, hC_, rfl, rfl, htm, hhp_⟩
            replace hC_ : j ≤ l.length := hC_
            have hj := hC_
            replace htm : tmkK 126 0 [(0, .slc 0 13 0 l.length), (8, .slc 1 13 0 l.length), (9, .v (.int .i64 j))] (fun l => tm = l) := htm
            conv at htm => whnf
            subst htm
            replace hhp_ : hp = [Ent.row false e ock (l.map orow), .row true 30 ock (m'.map orow)] := hhp_
            subst hhp_
            repeat ((conv => whnf); (first | refine Cnd.yes ?_ | refine Cnd.no ?_ | refine And.intro rfl ?_ | refine And.intro (by omega) ?_ | (refine And.intro ?_ ?_; focus (simp only [IntKind.wrap_i64, IntKind.wrap_u64, IntKind.wrap_u32]; omega)) | (refine And.intro ?_ ?_; focus (simp only [zl1, zl2, zl3, zl4, zl5, zl6, zl7, zl8, zl9] <;> omega)) | refine Alt.std ?_ | (refine Cnd.tt ?_ ?_; focus (first | (apply decide_eq_true; omega) | (simp only [zq1, zq2, zq3, zq4, zq5, zq6, zq7, zq8, zq9, zq10, zq11, zq12] <;> omega) | rfl)) | (refine Cnd.ff ?_ ?_; focus (first | (apply decide_eq_false; omega) | (simp only [zq1, zq2, zq3, zq4, zq5, zq6, zq7, zq8, zq9, zq10, zq11, zq12] <;> omega) | rfl))))
            conv => whnf
            refine Cnd.mk (fun hlt => ?_) fun hge => ?_
            · have hjl : j < l.length := by have := of_decide_eq_true hlt; omega
              repeat ((conv => whnf); (first | refine Cnd.yes ?_ | refine Cnd.no ?_ | refine And.intro rfl ?_ | refine And.intro (by omega) ?_ | (refine And.intro ?_ ?_; focus (simp only [IntKind.wrap_i64, IntKind.wrap_u64, IntKind.wrap_u32]; omega)) | (refine And.intro ?_ ?_; focus (simp only [zl1, zl2, zl3, zl4, zl5, zl6, zl7, zl8, zl9] <;> omega)) | refine Alt.std ?_ | (refine Cnd.tt ?_ ?_; focus (first | (apply decide_eq_true; omega) | (simp only [zq1, zq2, zq3, zq4, zq5, zq6, zq7, zq8, zq9, zq10, zq11, zq12] <;> omega) | rfl)) | (refine Cnd.ff ?_ ?_; focus (first | (apply decide_eq_false; omega) | (simp only [zq1, zq2, zq3, zq4, zq5, zq6, zq7, zq8, zq9, zq10, zq11, zq12] <;> omega) | rfl))))
              conv => whnf
              refine ⟨InvS 126 (fun s : Nat => l.length - s) (fun s : Nat => j < s ∧ s ≤ l.length) (fun s : Nat => [(0, .slc 0 13 0 l.length), (8, .slc 1 13 0 l.length), (9, .v (.int .i64 j)), (10, .v (.int .i64 s))]) (fun s : Nat => [Ent.row false e ock (l.map orow), .row true 30 ock (m'.map orow)]) M1, ⟨(fun s : Nat => l.length - s) (j + 1), [0, 1], tmk 126 0 ((fun s : Nat => [(0, .slc 0 13 0 l.length), (8, .slc 1 13 0 l.length), (9, .v (.int .i64 j)), (10, .v (.int .i64 s))]) (j + 1)), (fun s : Nat => [Ent.row false e ock (l.map orow), .row true 30 ock (m'.map orow)]) (j + 1), ?_⟩, ?_⟩
              · repeat ((conv => whnf); (first | refine Cnd.yes ?_ | refine Cnd.no ?_ | refine And.intro rfl ?_ | refine And.intro (by omega) ?_ | (refine And.intro ?_ ?_; focus (simp only [IntKind.wrap_i64, IntKind.wrap_u64, IntKind.wrap_u32]; omega)) | (refine And.intro ?_ ?_; focus (simp only [zl1, zl2, zl3, zl4, zl5, zl6, zl7, zl8, zl9] <;> omega)) | refine Alt.std ?_))
                conv => whnf
                exact ⟨j + 1, ⟨Nat.lt_succ_self j, hjl⟩, rfl, rfl, (tmkK_eq _ _ _ _).mpr rfl, rfl⟩
              · rintro cnt tm hp M1 ⟨k, hC_, rfl, rfl, htm, hhp_⟩
                replace hC_ : j < k ∧ k ≤ l.length := hC_
                obtain ⟨hjk, hk⟩ := hC_
                replace htm : tmkK 126 0 [(0, .slc 0 13 0 l.length), (8, .slc 1 13 0 l.length), (9, .v (.int .i64 j)), (10, .v (.int .i64 k))] (fun l => tm = l) := htm
                conv at htm => whnf
                subst htm
                replace hhp_ : hp = [Ent.row false e ock (l.map orow), .row true 30 ock (m'.map orow)] := hhp_
                subst hhp_
                repeat ((conv => whnf); (first | refine Cnd.yes ?_ | refine Cnd.no ?_ | refine And.intro rfl ?_ | refine And.intro (by omega) ?_ | (refine And.intro ?_ ?_; focus (simp only [IntKind.wrap_i64, IntKind.wrap_u64, IntKind.wrap_u32]; omega)) | (refine And.intro ?_ ?_; focus (simp only [zl1, zl2, zl3, zl4, zl5, zl6, zl7, zl8, zl9] <;> omega)) | refine Alt.std ?_ | (refine Cnd.tt ?_ ?_; focus (first | (apply decide_eq_true; omega) | (simp only [zq1, zq2, zq3, zq4, zq5, zq6, zq7, zq8, zq9, zq10, zq11, zq12] <;> omega) | rfl)) | (refine Cnd.ff ?_ ?_; focus (first | (apply decide_eq_false; omega) | (simp only [zq1, zq2, zq3, zq4, zq5, zq6, zq7, zq8, zq9, zq10, zq11, zq12] <;> omega) | rfl))))
                conv => whnf
                refine Cnd.mk (fun hlt2 => ?_) fun hge2 => ?_
                · have hkl : k < l.length := by have := of_decide_eq_true hlt2; omega
                  repeat ((conv => whnf); (first | refine Cnd.yes ?_ | refine Cnd.no ?_ | refine And.intro rfl ?_ | refine And.intro (by omega) ?_ | (refine And.intro ?_ ?_; focus (simp only [IntKind.wrap_i64, IntKind.wrap_u64, IntKind.wrap_u32]; omega)) | (refine And.intro ?_ ?_; focus (simp only [zl1, zl2, zl3, zl4, zl5, zl6, zl7, zl8, zl9] <;> omega)) | refine Alt.std ?_ | (refine Cnd.tt ?_ ?_; focus (first | (apply decide_eq_true; omega) | (simp only [zq1, zq2, zq3, zq4, zq5, zq6, zq7, zq8, zq9, zq10, zq11, zq12] <;> omega) | rfl)) | (refine Cnd.ff ?_ ?_; focus (first | (apply decide_eq_false; omega) | (simp only [zq1, zq2, zq3, zq4, zq5, zq6, zq7, zq8, zq9, zq10, zq11, zq12] <;> omega) | rfl))))
                  conv => whnf
                  refine ⟨false, e, l, j, k, rfl, rfl, by omega, hF, hDl.mono hM1, ?_⟩
                  repeat ((conv => whnf); (first | refine Cnd.yes ?_ | refine Cnd.no ?_ | refine And.intro rfl ?_ | refine And.intro (by omega) ?_ | (refine And.intro ?_ ?_; focus (simp only [IntKind.wrap_i64, IntKind.wrap_u64, IntKind.wrap_u32]; omega)) | (refine And.intro ?_ ?_; focus (simp only [zl1, zl2, zl3, zl4, zl5, zl6, zl7, zl8, zl9] <;> omega)) | refine Alt.std ?_ | (refine Cnd.tt ?_ ?_; focus (first | (apply decide_eq_true; omega) | (simp only [zq1, zq2, zq3, zq4, zq5, zq6, zq7, zq8, zq9, zq10, zq11, zq12] <;> omega) | rfl)) | (refine Cnd.ff ?_ ?_; focus (first | (apply decide_eq_false; omega) | (simp only [zq1, zq2, zq3, zq4, zq5, zq6, zq7, zq8, zq9, zq10, zq11, zq12] <;> omega) | rfl))))
                  conv => whnf
                  refine Cnd.mk (fun hp => ?_) fun hp => ?_
                  · have hw := why_more hG'.more j k hjk hkl (of_decide_eq_true hp)
                    repeat ((conv => whnf); (first | refine Cnd.yes ?_ | refine Cnd.no ?_ | refine And.intro rfl ?_ | refine And.intro (by omega) ?_ | (refine And.intro ?_ ?_; focus (simp only [IntKind.wrap_i64, IntKind.wrap_u64, IntKind.wrap_u32]; omega)) | (refine And.intro ?_ ?_; focus (simp only [zl1, zl2, zl3, zl4, zl5, zl6, zl7, zl8, zl9] <;> omega)) | refine Alt.std ?_ | (refine Cnd.tt ?_ ?_; focus (first | (apply decide_eq_true; omega) | (simp only [zq1, zq2, zq3, zq4, zq5, zq6, zq7, zq8, zq9, zq10, zq11, zq12] <;> omega) | rfl)) | (refine Cnd.ff ?_ ?_; focus (first | (apply decide_eq_false; omega) | (simp only [zq1, zq2, zq3, zq4, zq5, zq6, zq7, zq8, zq9, zq10, zq11, zq12] <;> omega) | rfl))))
                    conv => whnf
                    refine ⟨true, 30, m', j, k, by rw [hG'.len], rfl, by rw [hG'.len]; omega, hG'.fit, hG'.deps, ?_⟩
                    repeat ((conv => whnf); (first | refine Cnd.yes ?_ | refine Cnd.no ?_ | refine And.intro rfl ?_ | refine And.intro (by omega) ?_ | (refine And.intro ?_ ?_; focus (simp only [IntKind.wrap_i64, IntKind.wrap_u64, IntKind.wrap_u32]; omega)) | (refine And.intro ?_ ?_; focus (simp only [zl1, zl2, zl3, zl4, zl5, zl6, zl7, zl8, zl9] <;> omega)) | refine Alt.std ?_ | (refine Cnd.tt ?_ ?_; focus (first | (apply decide_eq_true; omega) | (simp only [zq1, zq2, zq3, zq4, zq5, zq6, zq7, zq8, zq9, zq10, zq11, zq12] <;> omega) | rfl)) | (refine Cnd.ff ?_ ?_; focus (first | (apply decide_eq_false; omega) | (simp only [zq1, zq2, zq3, zq4, zq5, zq6, zq7, zq8, zq9, zq10, zq11, zq12] <;> omega) | rfl))))
                    conv => whnf
                    (refine ⟨(fun s : Nat => l.length - s) (k + 1), [0, 1], tmk 126 0 ((fun s : Nat => [(0, .slc 0 13 0 l.length), (8, .slc 1 13 0 l.length), (9, .v (.int .i64 j)), (10, .v (.int .i64 s))]) (k + 1)), (fun s : Nat => [Ent.row false e ock (l.map orow), .row true 30 ock (m'.map orow)]) (k + 1), ?_, ?_⟩; focus (first | (simp only []; omega) | omega))
                    repeat ((conv => whnf); (first | refine Cnd.yes ?_ | refine Cnd.no ?_ | refine And.intro rfl ?_ | refine And.intro (by omega) ?_ | (refine And.intro ?_ ?_; focus (simp only [IntKind.wrap_i64, IntKind.wrap_u64, IntKind.wrap_u32]; omega)) | (refine And.intro ?_ ?_; focus (simp only [zl1, zl2, zl3, zl4, zl5, zl6, zl7, zl8, zl9] <;> omega)) | refine Alt.std ?_))
                    conv => whnf
                    exact ⟨k + 1, ⟨by omega, hkl⟩, rfl, rfl, (tmkK_eq _ _ _ _).mpr rfl, rfl⟩
                  · repeat ((conv => whnf); (first | refine Cnd.yes ?_ | refine Cnd.no ?_ | refine And.intro rfl ?_ | refine And.intro (by omega) ?_ | (refine And.intro ?_ ?_; focus (simp only [IntKind.wrap_i64, IntKind.wrap_u64, IntKind.wrap_u32]; omega)) | (refine And.intro ?_ ?_; focus (simp only [zl1, zl2, zl3, zl4, zl5, zl6, zl7, zl8, zl9] <;> omega)) | refine Alt.std ?_ | (refine Cnd.tt ?_ ?_; focus (first | (apply decide_eq_true; omega) | (simp only [zq1, zq2, zq3, zq4, zq5, zq6, zq7, zq8, zq9, zq10, zq11, zq12] <;> omega) | rfl)) | (refine Cnd.ff ?_ ?_; focus (first | (apply decide_eq_false; omega) | (simp only [zq1, zq2, zq3, zq4, zq5, zq6, zq7, zq8, zq9, zq10, zq11, zq12] <;> omega) | rfl))))
                    conv => whnf
                    (refine ⟨(fun s : Nat => l.length - s) (k + 1), [0, 1], tmk 126 0 ((fun s : Nat => [(0, .slc 0 13 0 l.length), (8, .slc 1 13 0 l.length), (9, .v (.int .i64 j)), (10, .v (.int .i64 s))]) (k + 1)), (fun s : Nat => [Ent.row false e ock (l.map orow), .row true 30 ock (m'.map orow)]) (k + 1), ?_, ?_⟩; focus (first | (simp only []; omega) | omega))
                    repeat ((conv => whnf); (first | refine Cnd.yes ?_ | refine Cnd.no ?_ | refine And.intro rfl ?_ | refine And.intro (by omega) ?_ | (refine And.intro ?_ ?_; focus (simp only [IntKind.wrap_i64, IntKind.wrap_u64, IntKind.wrap_u32]; omega)) | (refine And.intro ?_ ?_; focus (simp only [zl1, zl2, zl3, zl4, zl5, zl6, zl7, zl8, zl9] <;> omega)) | refine Alt.std ?_))
                    conv => whnf
                    exact ⟨k + 1, ⟨by omega, hkl⟩, rfl, rfl, (tmkK_eq _ _ _ _).mpr rfl, rfl⟩
                · repeat ((conv => whnf); (first | refine Cnd.yes ?_ | refine Cnd.no ?_ | refine And.intro rfl ?_ | refine And.intro (by omega) ?_ | (refine And.intro ?_ ?_; focus (simp only [IntKind.wrap_i64, IntKind.wrap_u64, IntKind.wrap_u32]; omega)) | (refine And.intro ?_ ?_; focus (simp only [zl1, zl2, zl3, zl4, zl5, zl6, zl7, zl8, zl9] <;> omega)) | refine Alt.std ?_ | (refine Cnd.tt ?_ ?_; focus (first | (apply decide_eq_true; omega) | (simp only [zq1, zq2, zq3, zq4, zq5, zq6, zq7, zq8, zq9, zq10, zq11, zq12] <;> omega) | rfl)) | (refine Cnd.ff ?_ ?_; focus (first | (apply decide_eq_false; omega) | (simp only [zq1, zq2, zq3, zq4, zq5, zq6, zq7, zq8, zq9, zq10, zq11, zq12] <;> omega) | rfl))))
                  conv => whnf
                  (refine ⟨(fun s : Nat => l.length - s) (j + 1), [0, 1], tmk 126 0 ((fun s : Nat => [(0, .slc 0 13 0 l.length), (8, .slc 1 13 0 l.length), (9, .v (.int .i64 s))]) (j + 1)), (fun s : Nat => [Ent.row false e ock (l.map orow), .row true 30 ock (m'.map orow)]) (j + 1), ?_, ?_⟩; focus (first | (simp only []; omega) | omega))
                  repeat ((conv => whnf); (first | refine Cnd.yes ?_ | refine Cnd.no ?_ | refine And.intro rfl ?_ | refine And.intro (by omega) ?_ | (refine And.intro ?_ ?_; focus (simp only [IntKind.wrap_i64, IntKind.wrap_u64, IntKind.wrap_u32]; omega)) | (refine And.intro ?_ ?_; focus (simp only [zl1, zl2, zl3, zl4, zl5, zl6, zl7, zl8, zl9] <;> omega)) | refine Alt.std ?_))
                  conv => whnf
                  exact ⟨j + 1, hjl, rfl, rfl, (tmkK_eq _ _ _ _).mpr rfl, rfl⟩
            · repeat ((conv => whnf); (first | refine Cnd.yes ?_ | refine Cnd.no ?_ | refine And.intro rfl ?_ | refine And.intro (by omega) ?_ | (refine And.intro ?_ ?_; focus (simp only [IntKind.wrap_i64, IntKind.wrap_u64, IntKind.wrap_u32]; omega)) | (refine And.intro ?_ ?_; focus (simp only [zl1, zl2, zl3, zl4, zl5, zl6, zl7, zl8, zl9] <;> omega)) | refine Alt.std ?_ | (refine Cnd.tt ?_ ?_; focus (first | (apply decide_eq_true; omega) | (simp only [zq1, zq2, zq3, zq4, zq5, zq6, zq7, zq8, zq9, zq10, zq11, zq12] <;> omega) | rfl)) | (refine Cnd.ff ?_ ?_; focus (first | (apply decide_eq_false; omega) | (simp only [zq1, zq2, zq3, zq4, zq5, zq6, zq7, zq8, zq9, zq10, zq11, zq12] <;> omega) | rfl))))
              conv => whnf
              exact hK _ _ hM1
        · by_cases h1 : 0 < i
          · repeat ((conv => whnf); (first | refine Cnd.yes ?_ | refine Cnd.no ?_ | refine And.intro rfl ?_ | refine And.intro (by omega) ?_ | (refine And.intro ?_ ?_; focus (simp only [IntKind.wrap_i64, IntKind.wrap_u64, IntKind.wrap_u32]; omega)) | (refine And.intro ?_ ?_; focus (simp only [zl1, zl2, zl3, zl4, zl5, zl6, zl7, zl8, zl9] <;> omega)) | refine Alt.std ?_ | (refine Cnd.tt ?_ ?_; focus (first | (apply decide_eq_true; omega) | (simp only [zq1, zq2, zq3, zq4, zq5, zq6, zq7, zq8, zq9, zq10, zq11, zq12] <;> omega) | rfl)) | (refine Cnd.ff ?_ ?_; focus (first | (apply decide_eq_false; omega) | (simp only [zq1, zq2, zq3, zq4, zq5, zq6, zq7, zq8, zq9, zq10, zq11, zq12] <;> omega) | rfl))))
            conv => whnf
            rw [e10]
            refine ⟨x.da.map irow, hfa.1, by rw [hfa.2, List.length_map], by decide, by rw [List.length_map]; omega, ?_⟩
            generalize hv : IntKind.i64.wrap ((i : Int) - 1) = v
            repeat ((conv => whnf); (first | refine Cnd.yes ?_ | refine Cnd.no ?_ | refine And.intro rfl ?_ | refine And.intro (by omega) ?_ | (refine And.intro ?_ ?_; focus (simp only [IntKind.wrap_i64, IntKind.wrap_u64, IntKind.wrap_u32]; omega)) | (refine And.intro ?_ ?_; focus (simp only [zl1, zl2, zl3, zl4, zl5, zl6, zl7, zl8, zl9] <;> omega)) | refine Alt.std ?_ | (refine Cnd.tt ?_ ?_; focus (first | (apply decide_eq_true; omega) | (simp only [zq1, zq2, zq3, zq4, zq5, zq6, zq7, zq8, zq9, zq10, zq11, zq12] <;> omega) | rfl)) | (refine Cnd.ff ?_ ?_; focus (first | (apply decide_eq_false; omega) | (simp only [zq1, zq2, zq3, zq4, zq5, zq6, zq7, zq8, zq9, zq10, zq11, zq12] <;> omega) | rfl))))
            conv => whnf
            intro y M7 hM2 hR
            rw [app_rows] at hR
            have hG' : Good M7 l (m.set i { x with ya := y, da := x.da ++ [v] }) := good_set hC hM2 hF hS hil (hx ▸ ⟨rfl, rfl, rfl, rfl, id, id, fun _ => id, fun _ => id, fun a h => List.mem_append_left _ h, fun _ => id, fun _ => id⟩) ⟨⟨3, hR⟩, (k1.mono hM2).d, (k1.mono hM2).c⟩ (show (x.da ++ [v]).length ≤ 41 by rw [List.length_append, List.length_singleton]; omega) (show x.dd.length ≤ 41 by omega) (show x.dc.length ≤ 41 by omega)
            have hs := op_set m him 10 [y] { x with ya := y, da := x.da ++ [v] } (by rw [hx]; rfl)
            generalize m.set i { x with ya := y, da := x.da ++ [v] } = m' at hs hG'
            have hM12 := hM1.trans hM2
            repeat ((conv => whnf); (first | refine Cnd.yes ?_ | refine Cnd.no ?_ | refine And.intro rfl ?_ | refine And.intro (by omega) ?_ | (refine And.intro ?_ ?_; focus (simp only [IntKind.wrap_i64, IntKind.wrap_u64, IntKind.wrap_u32]; omega)) | (refine And.intro ?_ ?_; focus (simp only [zl1, zl2, zl3, zl4, zl5, zl6, zl7, zl8, zl9] <;> omega)) | refine Alt.std ?_ | (refine Cnd.tt ?_ ?_; focus (first | (apply decide_eq_true; omega) | (simp only [zq1, zq2, zq3, zq4, zq5, zq6, zq7, zq8, zq9, zq10, zq11, zq12] <;> omega) | rfl)) | (refine Cnd.ff ?_ ?_; focus (first | (apply decide_eq_false; omega) | (simp only [zq1, zq2, zq3, zq4, zq5, zq6, zq7, zq8, zq9, zq10, zq11, zq12] <;> omega) | rfl))))
            conv => whnf
            refine ⟨InvS 126 (fun s : Nat => l.length - s) (fun s : Nat => s ≤ l.length) (fun s : Nat => [(0, .slc 0 13 0 l.length), (8, .slc 1 13 0 l.length), (9, .v (.int .i64 s))]) (fun s : Nat => [Ent.row false e ock (l.map orow), .row true 30 ock (m'.map orow)]) M7, ⟨(fun s : Nat => l.length - s) 0, [0, 1], tmk 126 0 ((fun s : Nat => [(0, .slc 0 13 0 l.length), (8, .slc 1 13 0 l.length), (9, .v (.int .i64 s))]) 0), (fun s : Nat => [Ent.row false e ock (l.map orow), .row true 30 ock (m'.map orow)]) 0, ?_⟩, ?_⟩
            · repeat ((conv => whnf); (first | refine Cnd.yes ?_ | refine Cnd.no ?_ | refine And.intro rfl ?_ | refine And.intro (by omega) ?_ | (refine And.intro ?_ ?_; focus (simp only [IntKind.wrap_i64, IntKind.wrap_u64, IntKind.wrap_u32]; omega)) | (refine And.intro ?_ ?_; focus (simp only [zl1, zl2, zl3, zl4, zl5, zl6, zl7, zl8, zl9] <;> omega)) | refine Alt.std ?_))
              conv => whnf
              try refine ⟨hs, ?_⟩
              repeat ((conv => whnf); (first | refine Cnd.yes ?_ | refine Cnd.no ?_ | refine And.intro rfl ?_ | refine And.intro (by omega) ?_ | (refine And.intro ?_ ?_; focus (simp only [IntKind.wrap_i64, IntKind.wrap_u64, IntKind.wrap_u32]; omega)) | (refine And.intro ?_ ?_; focus (simp only [zl1, zl2, zl3, zl4, zl5, zl6, zl7, zl8, zl9] <;> omega)) | refine Alt.std ?_))
              conv => whnf
              exact ⟨0, Nat.zero_le _, rfl, rfl, (tmkK_eq _ _ _ _).mpr rfl, rfl⟩
            · rintro cnt tm hp M1 ⟨j, hC_, rfl, rfl, htm, hhp_⟩
              replace hC_ : j ≤ l.length := hC_
              have hj := hC_
              replace htm : tmkK 126 0 [(0, .slc 0 13 0 l.length), (8, .slc 1 13 0 l.length), (9, .v (.int .i64 j))] (fun l => tm = l) := htm
              conv at htm => whnf
              subst htm
              replace hhp_ : hp = [Ent.row false e ock (l.map orow), .row true 30 ock (m'.map orow)] := hhp_
              subst hhp_
              repeat ((conv => whnf); (first | refine Cnd.yes ?_ | refine Cnd.no ?_ | refine And.intro rfl ?_ | refine And.intro (by omega) ?_ | (refine And.intro ?_ ?_; focus (simp only [IntKind.wrap_i64, IntKind.wrap_u64, IntKind.wrap_u32]; omega)) | (refine And.intro ?_ ?_; focus (simp only [zl1, zl2, zl3, zl4, zl5, zl6, zl7, zl8, zl9] <;> omega)) | refine Alt.std ?_ | (refine Cnd.tt ?_ ?_; focus (first | (apply decide_eq_true; omega) | (simp only [zq1, zq2, zq3, zq4, zq5, zq6, zq7, zq8, zq9, zq10, zq11, zq12] <;> omega) | rfl)) | (refine Cnd.ff ?_ ?_; focus (first | (apply decide_eq_false; omega) | (simp only [zq1, zq2, zq3, zq4, zq5, zq6, zq7, zq8, zq9, zq10, zq11, zq12] <;> omega) | rfl))))
              conv => whnf
              refine Cnd.mk (fun hlt => ?_) fun hge => ?_
              · have hjl : j < l.length := by have := of_decide_eq_true hlt; omega
                repeat ((conv => whnf); (first | refine Cnd.yes ?_ | refine Cnd.no ?_ | refine And.intro rfl ?_ | refine And.intro (by omega) ?_ | (refine And.intro ?_ ?_; focus (simp only [IntKind.wrap_i64, IntKind.wrap_u64, IntKind.wrap_u32]; omega)) | (refine And.intro ?_ ?_; focus (simp only [zl1, zl2, zl3, zl4, zl5, zl6, zl7, zl8, zl9] <;> omega)) | refine Alt.std ?_ | (refine Cnd.tt ?_ ?_; focus (first | (apply decide_eq_true; omega) | (simp only [zq1, zq2, zq3, zq4, zq5, zq6, zq7, zq8, zq9, zq10, zq11, zq12] <;> omega) | rfl)) | (refine Cnd.ff ?_ ?_; focus (first | (apply decide_eq_false; omega) | (simp only [zq1, zq2, zq3, zq4, zq5, zq6, zq7, zq8, zq9, zq10, zq11, zq12] <;> omega) | rfl))))
                conv => whnf
                refine ⟨InvS 126 (fun s : Nat => l.length - s) (fun s : Nat => j < s ∧ s ≤ l.length) (fun s : Nat => [(0, .slc 0 13 0 l.length), (8, .slc 1 13 0 l.length), (9, .v (.int .i64 j)), (10, .v (.int .i64 s))]) (fun s : Nat => [Ent.row false e ock (l.map orow), .row true 30 ock (m'.map orow)]) M1, ⟨(fun s : Nat => l.length - s) (j + 1), [0, 1], tmk 126 0 ((fun s : Nat => [(0, .slc 0 13 0 l.length), (8, .slc 1 13 0 l.length), (9, .v (.int .i64 j)), (10, .v (.int .i64 s))]) (j + 1)), (fun s : Nat => [Ent.row false e ock (l.map orow), .row true 30 ock (m'.map orow)]) (j + 1), ?_⟩, ?_⟩
                · repeat ((conv => whnf); (first | refine Cnd.yes ?_ | refine Cnd.no ?_ | refine And.intro rfl ?_ | refine And.intro (by omega) ?_ | (refine And.intro ?_ ?_; focus (simp only [IntKind.wrap_i64, IntKind.wrap_u64, IntKind.wrap_u32]; omega)) | (refine And.intro ?_ ?_; focus (simp only [zl1, zl2, zl3, zl4, zl5, zl6, zl7, zl8, zl9] <;> omega)) | refine Alt.std ?_))
                  conv => whnf
                  exact ⟨j + 1, ⟨Nat.lt_succ_self j, hjl⟩, rfl, rfl, (tmkK_eq _ _ _ _).mpr rfl, rfl⟩
                · rintro cnt tm hp M1 ⟨k, hC_, rfl, rfl, htm, hhp_⟩
                  replace hC_ : j < k ∧ k ≤ l.length := hC_
                  obtain ⟨hjk, hk⟩ := hC_
                  replace htm : tmkK 126 0 [(0, .slc 0 13 0 l.length), (8, .slc 1 13 0 l.length), (9, .v (.int .i64 j)), (10, .v (.int .i64 k))] (fun l => tm = l) := htm
                  conv at htm => whnf
                  subst htm
                  replace hhp_ : hp = [Ent.row false e ock (l.map orow), .row true 30 ock (m'.map orow)] := hhp_
                  subst hhp_
                  repeat ((conv => whnf); (first | refine Cnd.yes ?_ | refine Cnd.no ?_ | refine And.intro rfl ?_ | refine And.intro (by omega) ?_ | (refine And.intro ?_ ?_; focus (simp only [IntKind.wrap_i64, IntKind.wrap_u64, IntKind.wrap_u32]; omega)) | (refine And.intro ?_ ?_; focus (simp only [zl1, zl2, zl3, zl4, zl5, zl6, zl7, zl8, zl9] <;> omega)) | refine Alt.std ?_ | (refine Cnd.tt ?_ ?_; focus (first | (apply decide_eq_true; omega) | (simp only [zq1, zq2, zq3, zq4, zq5, zq6, zq7, zq8, zq9, zq10, zq11, zq12] <;> omega) | rfl)) | (refine Cnd.ff ?_ ?_; focus (first | (apply decide_eq_false; omega) | (simp only [zq1, zq2, zq3, zq4, zq5, zq6, zq7, zq8, zq9, zq10, zq11, zq12] <;> omega) | rfl))))
                  conv => whnf
                  refine Cnd.mk (fun hlt2 => ?_) fun hge2 => ?_
                  · have hkl : k < l.length := by have := of_decide_eq_true hlt2; omega
                    repeat ((conv => whnf); (first | refine Cnd.yes ?_ | refine Cnd.no ?_ | refine And.intro rfl ?_ | refine And.intro (by omega) ?_ | (refine And.intro ?_ ?_; focus (simp only [IntKind.wrap_i64, IntKind.wrap_u64, IntKind.wrap_u32]; omega)) | (refine And.intro ?_ ?_; focus (simp only [zl1, zl2, zl3, zl4, zl5, zl6, zl7, zl8, zl9] <;> omega)) | refine Alt.std ?_ | (refine Cnd.tt ?_ ?_; focus (first | (apply decide_eq_true; omega) | (simp only [zq1, zq2, zq3, zq4, zq5, zq6, zq7, zq8, zq9, zq10, zq11, zq12] <;> omega) | rfl)) | (refine Cnd.ff ?_ ?_; focus (first | (apply decide_eq_false; omega) | (simp only [zq1, zq2, zq3, zq4, zq5, zq6, zq7, zq8, zq9, zq10, zq11, zq12] <;> omega) | rfl))))
                    conv => whnf
                    refine ⟨false, e, l, j, k, rfl, rfl, by omega, hF, hDl.mono hM12, ?_⟩
                    repeat ((conv => whnf); (first | refine Cnd.yes ?_ | refine Cnd.no ?_ | refine And.intro rfl ?_ | refine And.intro (by omega) ?_ | (refine And.intro ?_ ?_; focus (simp only [IntKind.wrap_i64, IntKind.wrap_u64, IntKind.wrap_u32]; omega)) | (refine And.intro ?_ ?_; focus (simp only [zl1, zl2, zl3, zl4, zl5, zl6, zl7, zl8, zl9] <;> omega)) | refine Alt.std ?_ | (refine Cnd.tt ?_ ?_; focus (first | (apply decide_eq_true; omega) | (simp only [zq1, zq2, zq3, zq4, zq5, zq6, zq7, zq8, zq9, zq10, zq11, zq12] <;> omega) | rfl)) | (refine Cnd.ff ?_ ?_; focus (first | (apply decide_eq_false; omega) | (simp only [zq1, zq2, zq3, zq4, zq5, zq6, zq7, zq8, zq9, zq10, zq11, zq12] <;> omega) | rfl))))
                    conv => whnf
                    refine Cnd.mk (fun hp => ?_) fun hp => ?_
                    · have hw := why_more hG'.more j k hjk hkl (of_decide_eq_true hp)
                      repeat ((conv => whnf); (first | refine Cnd.yes ?_ | refine Cnd.no ?_ | refine And.intro rfl ?_ | refine And.intro (by omega) ?_ | (refine And.intro ?_ ?_; focus (simp only [IntKind.wrap_i64, IntKind.wrap_u64, IntKind.wrap_u32]; omega)) | (refine And.intro ?_ ?_; focus (simp only [zl1, zl2, zl3, zl4, zl5, zl6, zl7, zl8, zl9] <;> omega)) | refine Alt.std ?_ | (refine Cnd.tt ?_ ?_; focus (first | (apply decide_eq_true; omega) | (simp only [zq1, zq2, zq3, zq4, zq5, zq6, zq7, zq8, zq9, zq10, zq11, zq12] <;> omega) | rfl)) | (refine Cnd.ff ?_ ?_; focus (first | (apply decide_eq_false; omega) | (simp only [zq1, zq2, zq3, zq4, zq5, zq6, zq7, zq8, zq9, zq10, zq11, zq12] <;> omega) | rfl))))
                      conv => whnf
                      refine ⟨true, 30, m', j, k, by rw [hG'.len], rfl, by rw [hG'.len]; omega, hG'.fit, hG'.deps, ?_⟩
                      repeat ((conv => whnf); (first | refine Cnd.yes ?_ | refine Cnd.no ?_ | refine And.intro rfl ?_ | refine And.intro (by omega) ?_ | (refine And.intro ?_ ?_; focus (simp only [IntKind.wrap_i64, IntKind.wrap_u64, IntKind.wrap_u32]; omega)) | (refine And.intro ?_ ?_; focus (simp only [zl1, zl2, zl3, zl4, zl5, zl6, zl7, zl8, zl9] <;> omega)) | refine Alt.std ?_ | (refine Cnd.tt ?_ ?_; focus (first | (apply decide_eq_true; omega) | (simp only [zq1, zq2, zq3, zq4, zq5, zq6, zq7, zq8, zq9, zq10, zq11, zq12] <;> omega) | rfl)) | (refine Cnd.ff ?_ ?_; focus (first | (apply decide_eq_false; omega) | (simp only [zq1, zq2, zq3, zq4, zq5, zq6, zq7, zq8, zq9, zq10, zq11, zq12] <;> omega) | rfl))))
                      conv => whnf
                      (refine ⟨(fun s : Nat => l.length - s) (k + 1), [0, 1], tmk 126 0 ((fun s : Nat => [(0, .slc 0 13 0 l.length), (8, .slc 1 13 0 l.length), (9, .v (.int .i64 j)), (10, .v (.int .i64 s))]) (k + 1)), (fun s : Nat => [Ent.row false e ock (l.map orow), .row true 30 ock (m'.map orow)]) (k + 1), ?_, ?_⟩; focus (first | (simp only []; omega) | omega))
                      repeat ((conv => whnf); (first | refine Cnd.yes ?_ | refine Cnd.no ?_ | refine And.intro rfl ?_ | refine And.intro (by omega) ?_ | (refine And.intro ?_ ?_; focus (simp only [IntKind.wrap_i64, IntKind.wrap_u64, IntKind.wrap_u32]; omega)) | (refine And.intro ?_ ?_; focus (simp only [zl1, zl2, zl3, zl4, zl5, zl6, zl7, zl8, zl9] <;> omega)) | refine Alt.std ?_))
                      conv => whnf
                      exact ⟨k + 1, ⟨by omega, hkl⟩, rfl, rfl, (tmkK_eq _ _ _ _).mpr rfl, rfl⟩
                    · repeat ((conv => whnf); (first | refine Cnd.yes ?_ | refine Cnd.no ?_ | refine And.intro rfl ?_ | refine And.intro (by omega) ?_ | (refine And.intro ?_ ?_; focus (simp only [IntKind.wrap_i64, IntKind.wrap_u64, IntKind.wrap_u32]; omega)) | (refine And.intro ?_ ?_; focus (simp only [zl1, zl2, zl3, zl4, zl5, zl6, zl7, zl8, zl9] <;> omega)) | refine Alt.std ?_ | (refine Cnd.tt ?_ ?_; focus (first | (apply decide_eq_true; omega) | (simp only [zq1, zq2, zq3, zq4, zq5, zq6, zq7, zq8, zq9, zq10, zq11, zq12] <;> omega) | rfl)) | (refine Cnd.ff ?_ ?_; focus (first | (apply decide_eq_false; omega) | (simp only [zq1, zq2, zq3, zq4, zq5, zq6, zq7, zq8, zq9, zq10, zq11, zq12] <;> omega) | rfl))))
                      conv => whnf
                      (refine ⟨(fun s : Nat => l.length - s) (k + 1), [0, 1], tmk 126 0 ((fun s : Nat => [(0, .slc 0 13 0 l.length), (8, .slc 1 13 0 l.length), (9, .v (.int .i64 j)), (10, .v (.int .i64 s))]) (k + 1)), (fun s : Nat => [Ent.row false e ock (l.map orow), .row true 30 ock (m'.map orow)]) (k + 1), ?_, ?_⟩; focus (first | (simp only []; omega) | omega))
                      repeat ((conv => whnf); (first | refine Cnd.yes ?_ | refine Cnd.no ?_ | refine And.intro rfl ?_ | refine And.intro (by omega) ?_ | (refine And.intro ?_ ?_; focus (simp only [IntKind.wrap_i64, IntKind.wrap_u64, IntKind.wrap_u32]; omega)) | (refine And.intro ?_ ?_; focus (simp only [zl1, zl2, zl3, zl4, zl5, zl6, zl7, zl8, zl9] <;> omega)) | refine Alt.std ?_))
                      conv => whnf
                      exact ⟨k + 1, ⟨by omega, hkl⟩, rfl, rfl, (tmkK_eq _ _ _ _).mpr rfl, rfl⟩
                  · repeat ((conv => whnf); (first | refine Cnd.yes ?_ | refine Cnd.no ?_ | refine And.intro rfl ?_ | refine And.intro (by omega) ?_ | (refine And.intro ?_ ?_; focus (simp only [IntKind.wrap_i64, IntKind.wrap_u64, IntKind.wrap_u32]; omega)) | (refine And.intro ?_ ?_; focus (simp only [zl1, zl2, zl3, zl4, zl5, zl6, zl7, zl8, zl9] <;> omega)) | refine Alt.std ?_ | (refine Cnd.tt ?_ ?_; focus (first | (apply decide_eq_true; omega) | (simp only [zq1, zq2, zq3, zq4, zq5, zq6, zq7, zq8, zq9, zq10, zq11, zq12] <;> omega) | rfl)) | (refine Cnd.ff ?_ ?_; focus (first | (apply decide_eq_false; omega) | (simp only [zq1, zq2, zq3, zq4, zq5, zq6, zq7, zq8, zq9, zq10, zq11, zq12] <;> omega) | rfl))))
                    conv => whnf
                    (refine ⟨(fun s : Nat => l.length - s) (j + 1), [0, 1], tmk 126 0 ((fun s : Nat => [(0, .slc 0 13 0 l.length), (8, .slc 1 13 0 l.length), (9, .v (.int .i64 s))]) (j + 1)), (fun s : Nat => [Ent.row false e ock (l.map orow), .row true 30 ock (m'.map orow)]) (j + 1), ?_, ?_⟩; focus (first | (simp only []; omega) | omega))
                    repeat ((conv => whnf); (first | refine Cnd.yes ?_ | refine Cnd.no ?_ | refine And.intro rfl ?_ | refine And.intro (by omega) ?_ | (refine And.intro ?_ ?_; focus (simp only [IntKind.wrap_i64, IntKind.wrap_u64, IntKind.wrap_u32]; omega)) | (refine And.intro ?_ ?_; focus (simp only [zl1, zl2, zl3, zl4, zl5, zl6, zl7, zl8, zl9] <;> omega)) | refine Alt.std ?_))
                    conv => whnf
                    exact ⟨j + 1, hjl, rfl, rfl, (tmkK_eq _ _ _ _).mpr rfl, rfl⟩
              · repeat ((conv => whnf); (first | refine Cnd.yes ?_ | refine Cnd.no ?_ | refine And.intro rfl ?_ | refine And.intro (by omega) ?_ | (refine And.intro ?_ ?_; focus (simp only [IntKind.wrap_i64, IntKind.wrap_u64, IntKind.wrap_u32]; omega)) | (refine And.intro ?_ ?_; focus (simp only [zl1, zl2, zl3, zl4, zl5, zl6, zl7, zl8, zl9] <;> omega)) | refine Alt.std ?_ | (refine Cnd.tt ?_ ?_; focus (first | (apply decide_eq_true; omega) | (simp only [zq1, zq2, zq3, zq4, zq5, zq6, zq7, zq8, zq9, zq10, zq11, zq12] <;> omega) | rfl)) | (refine Cnd.ff ?_ ?_; focus (first | (apply decide_eq_false; omega) | (simp only [zq1, zq2, zq3, zq4, zq5, zq6, zq7, zq8, zq9, zq10, zq11, zq12] <;> omega) | rfl))))
                conv => whnf
                exact hK _ _ hM12
          · repeat ((conv => whnf); (first | refine Cnd.yes ?_ | refine Cnd.no ?_ | refine And.intro rfl ?_ | refine And.intro (by omega) ?_ | (refine And.intro ?_ ?_; focus (simp only [IntKind.wrap_i64, IntKind.wrap_u64, IntKind.wrap_u32]; omega)) | (refine And.intro ?_ ?_; focus (simp only [zl1, zl2, zl3, zl4, zl5, zl6, zl7, zl8, zl9] <;> omega)) | refine Alt.std ?_ | (refine Cnd.tt ?_ ?_; focus (first | (apply decide_eq_true; omega) | (simp only [zq1, zq2, zq3, zq4, zq5, zq6, zq7, zq8, zq9, zq10, zq11, zq12] <;> omega) | rfl)) | (refine Cnd.ff ?_ ?_; focus (first | (apply decide_eq_false; omega) | (simp only [zq1, zq2, zq3, zq4, zq5, zq6, zq7, zq8, zq9, zq10, zq11, zq12] <;> omega) | rfl))))
            conv => whnf
            refine ⟨InvS 126 (fun s : Nat => l.length - s) (fun s : Nat => s ≤ l.length) (fun s : Nat => [(0, .slc 0 13 0 l.length), (8, .slc 1 13 0 l.length), (9, .v (.int .i64 s))]) (fun s : Nat => [Ent.row false e ock (l.map orow), .row true 30 ock (m.map orow)]) M1, ⟨(fun s : Nat => l.length - s) 0, [0, 1], tmk 126 0 ((fun s : Nat => [(0, .slc 0 13 0 l.length), (8, .slc 1 13 0 l.length), (9, .v (.int .i64 s))]) 0), (fun s : Nat => [Ent.row false e ock (l.map orow), .row true 30 ock (m.map orow)]) 0, ?_⟩, ?_⟩
            · repeat ((conv => whnf); (first | refine Cnd.yes ?_ | refine Cnd.no ?_ | refine And.intro rfl ?_ | refine And.intro (by omega) ?_ | (refine And.intro ?_ ?_; focus (simp only [IntKind.wrap_i64, IntKind.wrap_u64, IntKind.wrap_u32]; omega)) | (refine And.intro ?_ ?_; focus (simp only [zl1, zl2, zl3, zl4, zl5, zl6, zl7, zl8, zl9] <;> omega)) | refine Alt.std ?_))
              conv => whnf
              try refine ⟨hs, ?_⟩
              repeat ((conv => whnf); (first | refine Cnd.yes ?_ | refine Cnd.no ?_ | refine And.intro rfl ?_ | refine And.intro (by omega) ?_ | (refine And.intro ?_ ?_; focus (simp only [IntKind.wrap_i64, IntKind.wrap_u64, IntKind.wrap_u32]; omega)) | (refine And.intro ?_ ?_; focus (simp only [zl1, zl2, zl3, zl4, zl5, zl6, zl7, zl8, zl9] <;> omega)) | refine Alt.std ?_))
              conv => whnf
              exact ⟨0, Nat.zero_le _, rfl, rfl, (tmkK_eq _ _ _ _).mpr rfl, rfl⟩
            · rintro cnt tm hp M1 ⟨j, hC_, rfl, rfl, htm, hhp_⟩
              replace hC_ : j ≤ l.length := hC_
              have hj := hC_
              replace htm : tmkK 126 0 [(0, .slc 0 13 0 l.length), (8, .slc 1 13 0 l.length), (9, .v (.int .i64 j))] (fun l => tm = l) := htm
              conv at htm => whnf
              subst htm
              replace hhp_ : hp = [Ent.row false e ock (l.map orow), .row true 30 ock (m.map orow)] := hhp_
              subst hhp_
              repeat ((conv => whnf); (first | refine Cnd.yes ?_ | refine Cnd.no ?_ | refine And.intro rfl ?_ | refine And.intro (by omega) ?_ | (refine And.intro ?_ ?_; focus (simp only [IntKind.wrap_i64, IntKind.wrap_u64, IntKind.wrap_u32]; omega)) | (refine And.intro ?_ ?_; focus (simp only [zl1, zl2, zl3, zl4, zl5, zl6, zl7, zl8, zl9] <;> omega)) | refine Alt.std ?_ | (refine Cnd.tt ?_ ?_; focus (first | (apply decide_eq_true; omega) | (simp only [zq1, zq2, zq3, zq4, zq5, zq6, zq7, zq8, zq9, zq10, zq11, zq12] <;> omega) | rfl)) | (refine Cnd.ff ?_ ?_; focus (first | (apply decide_eq_false; omega) | (simp only [zq1, zq2, zq3, zq4, zq5, zq6, zq7, zq8, zq9, zq10, zq11, zq12] <;> omega) | rfl))))
              conv => whnf
              refine Cnd.mk (fun hlt => ?_) fun hge => ?_
              · have hjl : j < l.length := by have := of_decide_eq_true hlt; omega
                repeat ((conv => whnf); (first | refine Cnd.yes ?_ | refine Cnd.no ?_ | refine And.intro rfl ?_ | refine And.intro (by omega) ?_ | (refine And.intro ?_ ?_; focus (simp only [IntKind.wrap_i64, IntKind.wrap_u64, IntKind.wrap_u32]; omega)) | (refine And.intro ?_ ?_; focus (simp only [zl1, zl2, zl3, zl4, zl5, zl6, zl7, zl8, zl9] <;> omega)) | refine Alt.std ?_ | (refine Cnd.tt ?_ ?_; focus (first | (apply decide_eq_true; omega) | (simp only [zq1, zq2, zq3, zq4, zq5, zq6, zq7, zq8, zq9, zq10, zq11, zq12] <;> omega) | rfl)) | (refine Cnd.ff ?_ ?_; focus (first | (apply decide_eq_false; omega) | (simp only [zq1, zq2, zq3, zq4, zq5, zq6, zq7, zq8, zq9, zq10, zq11, zq12] <;> omega) | rfl))))
                conv => whnf
                refine ⟨InvS 126 (fun s : Nat => l.length - s) (fun s : Nat => j < s ∧ s ≤ l.length) (fun s : Nat => [(0, .slc 0 13 0 l.length), (8, .slc 1 13 0 l.length), (9, .v (.int .i64 j)), (10, .v (.int .i64 s))]) (fun s : Nat => [Ent.row false e ock (l.map orow), .row true 30 ock (m.map orow)]) M1, ⟨(fun s : Nat => l.length - s) (j + 1), [0, 1], tmk 126 0 ((fun s : Nat => [(0, .slc 0 13 0 l.length), (8, .slc 1 13 0 l.length), (9, .v (.int .i64 j)), (10, .v (.int .i64 s))]) (j + 1)), (fun s : Nat => [Ent.row false e ock (l.map orow), .row true 30 ock (m.map orow)]) (j + 1), ?_⟩, ?_⟩
                · repeat ((conv => whnf); (first | refine Cnd.yes ?_ | refine Cnd.no ?_ | refine And.intro rfl ?_ | refine And.intro (by omega) ?_ | (refine And.intro ?_ ?_; focus (simp only [IntKind.wrap_i64, IntKind.wrap_u64, IntKind.wrap_u32]; omega)) | (refine And.intro ?_ ?_; focus (simp only [zl1, zl2, zl3, zl4, zl5, zl6, zl7, zl8, zl9] <;> omega)) | refine Alt.std ?_))
                  conv => whnf
                  exact ⟨j + 1, ⟨Nat.lt_succ_self j, hjl⟩, rfl, rfl, (tmkK_eq _ _ _ _).mpr rfl, rfl⟩
                · rintro cnt tm hp M1 ⟨k, hC_, rfl, rfl, htm, hhp_⟩
                  replace hC_ : j < k ∧ k ≤ l.length := hC_
                  obtain ⟨hjk, hk⟩ := hC_
                  replace htm : tmkK 126 0 [(0, .slc 0 13 0 l.length), (8, .slc 1 13 0 l.length), (9, .v (.int .i64 j)), (10, .v (.int .i64 k))] (fun l => tm = l) := htm
                  conv at htm => whnf
                  subst htm
                  replace hhp_ : hp = [Ent.row false e ock (l.map orow), .row true 30 ock (m.map orow)] := hhp_
                  subst hhp_
                  repeat ((conv => whnf); (first | refine Cnd.yes ?_ | refine Cnd.no ?_ | refine And.intro rfl ?_ | refine And.intro (by omega) ?_ | (refine And.intro ?_ ?_; focus (simp only [IntKind.wrap_i64, IntKind.wrap_u64, IntKind.wrap_u32]; omega)) | (refine And.intro ?_ ?_; focus (simp only [zl1, zl2, zl3, zl4, zl5, zl6, zl7, zl8, zl9] <;> omega)) | refine Alt.std ?_ | (refine Cnd.tt ?_ ?_; focus (first | (apply decide_eq_true; omega) | (simp only [zq1, zq2, zq3, zq4, zq5, zq6, zq7, zq8, zq9, zq10, zq11, zq12] <;> omega) | rfl)) | (refine Cnd.ff ?_ ?_; focus (first | (apply decide_eq_false; omega) | (simp only [zq1, zq2, zq3, zq4, zq5, zq6, zq7, zq8, zq9, zq10, zq11, zq12] <;> omega) | rfl))))
                  conv => whnf
                  refine Cnd.mk (fun hlt2 => ?_) fun hge2 => ?_
                  · have hkl : k < l.length := by have := of_decide_eq_true hlt2; omega
                    repeat ((conv => whnf); (first | refine Cnd.yes ?_ | refine Cnd.no ?_ | refine And.intro rfl ?_ | refine And.intro (by omega) ?_ | (refine And.intro ?_ ?_; focus (simp only [IntKind.wrap_i64, IntKind.wrap_u64, IntKind.wrap_u32]; omega)) | (refine And.intro ?_ ?_; focus (simp only [zl1, zl2, zl3, zl4, zl5, zl6, zl7, zl8, zl9] <;> omega)) | refine Alt.std ?_ | (refine Cnd.tt ?_ ?_; focus (first | (apply decide_eq_true; omega) | (simp only [zq1, zq2, zq3, zq4, zq5, zq6, zq7, zq8, zq9, zq10, zq11, zq12] <;> omega) | rfl)) | (refine Cnd.ff ?_ ?_; focus (first | (apply decide_eq_false; omega) | (simp only [zq1, zq2, zq3, zq4, zq5, zq6, zq7, zq8, zq9, zq10, zq11, zq12] <;> omega) | rfl))))
                    conv => whnf
                    refine ⟨false, e, l, j, k, rfl, rfl, by omega, hF, hDl.mono hM1, ?_⟩
                    repeat ((conv => whnf); (first | refine Cnd.yes ?_ | refine Cnd.no ?_ | refine And.intro rfl ?_ | refine And.intro (by omega) ?_ | (refine And.intro ?_ ?_; focus (simp only [IntKind.wrap_i64, IntKind.wrap_u64, IntKind.wrap_u32]; omega)) | (refine And.intro ?_ ?_; focus (simp only [zl1, zl2, zl3, zl4, zl5, zl6, zl7, zl8, zl9] <;> omega)) | refine Alt.std ?_ | (refine Cnd.tt ?_ ?_; focus (first | (apply decide_eq_true; omega) | (simp only [zq1, zq2, zq3, zq4, zq5, zq6, zq7, zq8, zq9, zq10, zq11, zq12] <;> omega) | rfl)) | (refine Cnd.ff ?_ ?_; focus (first | (apply decide_eq_false; omega) | (simp only [zq1, zq2, zq3, zq4, zq5, zq6, zq7, zq8, zq9, zq10, zq11, zq12] <;> omega) | rfl))))
                    conv => whnf
                    refine Cnd.mk (fun hp => ?_) fun hp => ?_
                    · have hw := why_more hG.more j k hjk hkl (of_decide_eq_true hp)
                      repeat ((conv => whnf); (first | refine Cnd.yes ?_ | refine Cnd.no ?_ | refine And.intro rfl ?_ | refine And.intro (by omega) ?_ | (refine And.intro ?_ ?_; focus (simp only [IntKind.wrap_i64, IntKind.wrap_u64, IntKind.wrap_u32]; omega)) | (refine And.intro ?_ ?_; focus (simp only [zl1, zl2, zl3, zl4, zl5, zl6, zl7, zl8, zl9] <;> omega)) | refine Alt.std ?_ | (refine Cnd.tt ?_ ?_; focus (first | (apply decide_eq_true; omega) | (simp only [zq1, zq2, zq3, zq4, zq5, zq6, zq7, zq8, zq9, zq10, zq11, zq12] <;> omega) | rfl)) | (refine Cnd.ff ?_ ?_; focus (first | (apply decide_eq_false; omega) | (simp only [zq1, zq2, zq3, zq4, zq5, zq6, zq7, zq8, zq9, zq10, zq11, zq12] <;> omega) | rfl))))
                      conv => whnf
                      refine ⟨true, 30, m, j, k, by rw [hG.len], rfl, by rw [hG.len]; omega, hG.fit, hG.deps, ?_⟩
                      repeat ((conv => whnf); (first | refine Cnd.yes ?_ | refine Cnd.no ?_ | refine And.intro rfl ?_ | refine And.intro (by omega) ?_ | (refine And.intro ?_ ?_; focus (simp only [IntKind.wrap_i64, IntKind.wrap_u64, IntKind.wrap_u32]; omega)) | (refine And.intro ?_ ?_; focus (simp only [zl1, zl2, zl3, zl4, zl5, zl6, zl7, zl8, zl9] <;> omega)) | refine Alt.std ?_ | (refine Cnd.tt ?_ ?_; focus (first | (apply decide_eq_true; omega) | (simp only [zq1, zq2, zq3, zq4, zq5, zq6, zq7, zq8, zq9, zq10, zq11, zq12] <;> omega) | rfl)) | (refine Cnd.ff ?_ ?_; focus (first | (apply decide_eq_false; omega) | (simp only [zq1, zq2, zq3, zq4, zq5, zq6, zq7, zq8, zq9, zq10, zq11, zq12] <;> omega) | rfl))))
                      conv => whnf
                      (refine ⟨(fun s : Nat => l.length - s) (k + 1), [0, 1], tmk 126 0 ((fun s : Nat => [(0, .slc 0 13 0 l.length), (8, .slc 1 13 0 l.length), (9, .v (.int .i64 j)), (10, .v (.int .i64 s))]) (k + 1)), (fun s : Nat => [Ent.row false e ock (l.map orow), .row true 30 ock (m.map orow)]) (k + 1), ?_, ?_⟩; focus (first | (simp only []; omega) | omega))
                      repeat ((conv => whnf); (first | refine Cnd.yes ?_ | refine Cnd.no ?_ | refine And.intro rfl ?_ | refine And.intro (by omega) ?_ | (refine And.intro ?_ ?_; focus (simp only [IntKind.wrap_i64, IntKind.wrap_u64, IntKind.wrap_u32]; omega)) | (refine And.intro ?_ ?_; focus (simp only [zl1, zl2, zl3, zl4, zl5, zl6, zl7, zl8, zl9] <;> omega)) | refine Alt.std ?_))
                      conv => whnf
                      exact ⟨k + 1, ⟨by omega, hkl⟩, rfl, rfl, (tmkK_eq _ _ _ _).mpr rfl, rfl⟩
                    · repeat ((conv => whnf); (first | refine Cnd.yes ?_ | refine Cnd.no ?_ | refine And.intro rfl ?_ | refine And.intro (by omega) ?_ | (refine And.intro ?_ ?_; focus (simp only [IntKind.wrap_i64, IntKind.wrap_u64, IntKind.wrap_u32]; omega)) | (refine And.intro ?_ ?_; focus (simp only [zl1, zl2, zl3, zl4, zl5, zl6, zl7, zl8, zl9] <;> omega)) | refine Alt.std ?_ | (refine Cnd.tt ?_ ?_; focus (first | (apply decide_eq_true; omega) | (simp only [zq1, zq2, zq3, zq4, zq5, zq6, zq7, zq8, zq9, zq10, zq11, zq12] <;> omega) | rfl)) | (refine Cnd.ff ?_ ?_; focus (first | (apply decide_eq_false; omega) | (simp only [zq1, zq2, zq3, zq4, zq5, zq6, zq7, zq8, zq9, zq10, zq11, zq12] <;> omega) | rfl))))
                      conv => whnf
                      (refine ⟨(fun s : Nat => l.length - s) (k + 1), [0, 1], tmk 126 0 ((fun s : Nat => [(0, .slc 0 13 0 l.length), (8, .slc 1 13 0 l.length), (9, .v (.int .i64 j)), (10, .v (.int .i64 s))]) (k + 1)), (fun s : Nat => [Ent.row false e ock (l.map orow), .row true 30 ock (m.map orow)]) (k + 1), ?_, ?_⟩; focus (first | (simp only []; omega) | omega))
                      repeat ((conv => whnf); (first | refine Cnd.yes ?_ | refine Cnd.no ?_ | refine And.intro rfl ?_ | refine And.intro (by omega) ?_ | (refine And.intro ?_ ?_; focus (simp only [IntKind.wrap_i64, IntKind.wrap_u64, IntKind.wrap_u32]; omega)) | (refine And.intro ?_ ?_; focus (simp only [zl1, zl2, zl3, zl4, zl5, zl6, zl7, zl8, zl9] <;> omega)) | refine Alt.std ?_))
                      conv => whnf
                      exact ⟨k + 1, ⟨by omega, hkl⟩, rfl, rfl, (tmkK_eq _ _ _ _).mpr rfl, rfl⟩
                  · repeat ((conv => whnf); (first | refine Cnd.yes ?_ | refine Cnd.no ?_ | refine And.intro rfl ?_ | refine And.intro (by omega) ?_ | (refine And.intro ?_ ?_; focus (simp only [IntKind.wrap_i64, IntKind.wrap_u64, IntKind.wrap_u32]; omega)) | (refine And.intro ?_ ?_; focus (simp only [zl1, zl2, zl3, zl4, zl5, zl6, zl7, zl8, zl9] <;> omega)) | refine Alt.std ?_ | (refine Cnd.tt ?_ ?_; focus (first | (apply decide_eq_true; omega) | (simp only [zq1, zq2, zq3, zq4, zq5, zq6, zq7, zq8, zq9, zq10, zq11, zq12] <;> omega) | rfl)) | (refine Cnd.ff ?_ ?_; focus (first | (apply decide_eq_false; omega) | (simp only [zq1, zq2, zq3, zq4, zq5, zq6, zq7, zq8, zq9, zq10, zq11, zq12] <;> omega) | rfl))))
                    conv => whnf
                    (refine ⟨(fun s : Nat => l.length - s) (j + 1), [0, 1], tmk 126 0 ((fun s : Nat => [(0, .slc 0 13 0 l.length), (8, .slc 1 13 0 l.length), (9, .v (.int .i64 s))]) (j + 1)), (fun s : Nat => [Ent.row false e ock (l.map orow), .row true 30 ock (m.map orow)]) (j + 1), ?_, ?_⟩; focus (first | (simp only []; omega) | omega))
                    repeat ((conv => whnf); (first | refine Cnd.yes ?_ | refine Cnd.no ?_ | refine And.intro rfl ?_ | refine And.intro (by omega) ?_ | (refine And.intro ?_ ?_; focus (simp only [IntKind.wrap_i64, IntKind.wrap_u64, IntKind.wrap_u32]; omega)) | (refine And.intro ?_ ?_; focus (simp only [zl1, zl2, zl3, zl4, zl5, zl6, zl7, zl8, zl9] <;> omega)) | refine Alt.std ?_))
                    conv => whnf
                    exact ⟨j + 1, hjl, rfl, rfl, (tmkK_eq _ _ _ _).mpr rfl, rfl⟩
              · repeat ((conv => whnf); (first | refine Cnd.yes ?_ | refine Cnd.no ?_ | refine And.intro rfl ?_ | refine And.intro (by omega) ?_ | (refine And.intro ?_ ?_; focus (simp only [IntKind.wrap_i64, IntKind.wrap_u64, IntKind.wrap_u32]; omega)) | (refine And.intro ?_ ?_; focus (simp only [zl1, zl2, zl3, zl4, zl5, zl6, zl7, zl8, zl9] <;> omega)) | refine Alt.std ?_ | (refine Cnd.tt ?_ ?_; focus (first | (apply decide_eq_true; omega) | (simp only [zq1, zq2, zq3, zq4, zq5, zq6, zq7, zq8, zq9, zq10, zq11, zq12] <;> omega) | rfl)) | (refine Cnd.ff ?_ ?_; focus (first | (apply decide_eq_false; omega) | (simp only [zq1, zq2, zq3, zq4, zq5, zq6, zq7, zq8, zq9, zq10, zq11, zq12] <;> omega) | rfl))))
                conv => whnf
                exact hK _ _ hM1
        · by_cases h1 : 0 < i
          · repeat ((conv => whnf); (first | refine Cnd.yes ?_ | refine Cnd.no ?_ | refine And.intro rfl ?_ | refine And.intro (by omega) ?_ | (refine And.intro ?_ ?_; focus (simp only [IntKind.wrap_i64, IntKind.wrap_u64, IntKind.wrap_u32]; omega)) | (refine And.intro ?_ ?_; focus (simp only [zl1, zl2, zl3, zl4, zl5, zl6, zl7, zl8, zl9] <;> omega)) | refine Alt.std ?_ | (refine Cnd.tt ?_ ?_; focus (first | (apply decide_eq_true; omega) | (simp only [zq1, zq2, zq3, zq4, zq5, zq6, zq7, zq8, zq9, zq10, zq11, zq12] <;> omega) | rfl)) | (refine Cnd.ff ?_ ?_; focus (first | (apply decide_eq_false; omega) | (simp only [zq1, zq2, zq3, zq4, zq5, zq6, zq7, zq8, zq9, zq10, zq11, zq12] <;> omega) | rfl))))
            conv => whnf
            rw [e12]
            refine ⟨x.dc.map irow, hfc.1, by rw [hfc.2, List.length_map], by decide, by rw [List.length_map]; omega, ?_⟩
            generalize hv : IntKind.i64.wrap (Int.tdiv (i : Int) 2) = v
            repeat ((conv => whnf); (first | refine Cnd.yes ?_ | refine Cnd.no ?_ | refine And.intro rfl ?_ | refine And.intro (by omega) ?_ | (refine And.intro ?_ ?_; focus (simp only [IntKind.wrap_i64, IntKind.wrap_u64, IntKind.wrap_u32]; omega)) | (refine And.intro ?_ ?_; focus (simp only [zl1, zl2, zl3, zl4, zl5, zl6, zl7, zl8, zl9] <;> omega)) | refine Alt.std ?_ | (refine Cnd.tt ?_ ?_; focus (first | (apply decide_eq_true; omega) | (simp only [zq1, zq2, zq3, zq4, zq5, zq6, zq7, zq8, zq9, zq10, zq11, zq12] <;> omega) | rfl)) | (refine Cnd.ff ?_ ?_; focus (first | (apply decide_eq_false; omega) | (simp only [zq1, zq2, zq3, zq4, zq5, zq6, zq7, zq8, zq9, zq10, zq11, zq12] <;> omega) | rfl))))
            conv => whnf
            intro y M7 hM2 hR
            rw [app_rows] at hR
            have hG' : Good M7 l (m.set i { x with yc := y, dc := x.dc ++ [v] }) := good_set hC hM2 hF hS hil (hx ▸ ⟨rfl, rfl, rfl, rfl, id, id, fun _ => id, fun _ => id, fun _ => id, fun _ => id, fun a h => List.mem_append_left _ h⟩) ⟨(k1.mono hM2).a, (k1.mono hM2).d, ⟨3, hR⟩⟩ (show x.da.length ≤ 41 by omega) (show x.dd.length ≤ 41 by omega) (show (x.dc ++ [v]).length ≤ 41 by rw [List.length_append, List.length_singleton]; omega)
            have hs := op_set m him 12 [y] { x with yc := y, dc := x.dc ++ [v] } (by rw [hx]; rfl)
            generalize m.set i { x with yc := y, dc := x.dc ++ [v] } = m' at hs hG'
            have hM12 := hM1.trans hM2
            repeat ((conv => whnf); (first | refine Cnd.yes ?_ | refine Cnd.no ?_ | refine And.intro rfl ?_ | refine And.intro (by omega) ?_ | (refine And.intro ?_ ?_; focus (simp only [IntKind.wrap_i64, IntKind.wrap_u64, IntKind.wrap_u32]; omega)) | (refine And.intro ?_ ?_; focus (simp only [zl1, zl2, zl3, zl4, zl5, zl6, zl7, zl8, zl9] <;> omega)) | refine Alt.std ?_ | (refine Cnd.tt ?_ ?_; focus (first | (apply decide_eq_true; omega) | (simp only [zq1, zq2, zq3, zq4, zq5, zq6, zq7, zq8, zq9, zq10, zq11, zq12] <;> omega) | rfl)) | (refine Cnd.ff ?_ ?_; focus (first | (apply decide_eq_false; omega) | (simp only [zq1, zq2, zq3, zq4, zq5, zq6, zq7, zq8, zq9, zq10, zq11, zq12] <;> omega) | rfl))))
            conv => whnf
            refine ⟨InvS 126 (fun s : Nat => l.length - s) (fun s : Nat => s ≤ l.length) (fun s : Nat => [(0, .slc 0 13 0 l.length), (8, .slc 1 13 0 l.length), (9, .v (.int .i64 s))]) (fun s : Nat => [Ent.row false e ock (l.map orow), .row true 30 ock (m'.map orow)]) M7, ⟨(fun s : Nat => l.length - s) 0, [0, 1], tmk 126 0 ((fun s : Nat => [(0, .slc 0 13 0 l.length), (8, .slc 1 13 0 l.length), (9, .v (.int .i64 s))]) 0), (fun s : Nat => [Ent.row false e ock (l.map orow), .row true 30 ock (m'.map orow)]) 0, ?_⟩, ?_⟩
            · repeat ((conv => whnf); (first | refine Cnd.yes ?_ | refine Cnd.no ?_ | refine And.intro rfl ?_ | refine And.intro (by omega) ?_ | (refine And.intro ?_ ?_; focus (simp only [IntKind.wrap_i64, IntKind.wrap_u64, IntKind.wrap_u32]; omega)) | (refine And.intro ?_ ?_; focus (simp only [zl1, zl2, zl3, zl4, zl5, zl6, zl7, zl8, zl9] <;> omega)) | refine Alt.std ?_))
              conv => whnf
              try refine ⟨hs, ?_⟩
              repeat ((conv => whnf); (first | refine Cnd.yes ?_ | refine Cnd.no ?_ | refine And.intro rfl ?_ | refine And.intro (by omega) ?_ | (refine And.intro ?_ ?_; focus (simp only [IntKind.wrap_i64, IntKind.wrap_u64, IntKind.wrap_u32]; omega)) | (refine And.intro ?_ ?_; focus (simp only [zl1, zl2, zl3, zl4, zl5, zl6, zl7, zl8, zl9] <;> omega)) | refine Alt.std ?_))
              conv => whnf
              exact ⟨0, Nat.zero_le _, rfl, rfl, (tmkK_eq _ _ _ _).mpr rfl, rfl⟩
            · rintro cnt tm hp M1 ⟨j, hC_, rfl, rfl, htm, hhp_⟩
              replace hC_ : j ≤ l.length := hC_
              have hj := hC_
              replace htm : tmkK 126 0 [(0, .slc 0 13 0 l.length), (8, .slc 1 13 0 l.length), (9, .v (.int .i64 j))] (fun l => tm = l) := htm
              conv at htm => whnf
              subst htm
              replace hhp_ : hp = [Ent.row false e ock (l.map orow), .row true 30 ock (m'.map orow)] := hhp_
              subst hhp_
              repeat ((conv => whnf); (first | refine Cnd.yes ?_ | refine Cnd.no ?_ | refine And.intro rfl ?_ | refine And.intro (by omega) ?_ | (refine And.intro ?_ ?_; focus (simp only [IntKind.wrap_i64, IntKind.wrap_u64, IntKind.wrap_u32]; omega)) | (refine And.intro ?_ ?_; focus (simp only [zl1, zl2, zl3, zl4, zl5, zl6, zl7, zl8, zl9] <;> omega)) | refine Alt.std ?_ | (refine Cnd.tt ?_ ?_; focus (first | (apply decide_eq_true; omega) | (simp only [zq1, zq2, zq3, zq4, zq5, zq6, zq7, zq8, zq9, zq10, zq11, zq12] <;> omega) | rfl)) | (refine Cnd.ff ?_ ?_; focus (first | (apply decide_eq_false; omega) | (simp only [zq1, zq2, zq3, zq4, zq5, zq6, zq7, zq8, zq9, zq10, zq11, zq12] <;> omega) | rfl))))
              conv => whnf
              refine Cnd.mk (fun hlt => ?_) fun hge => ?_
              · have hjl : j < l.length := by have := of_decide_eq_true hlt; omega
                repeat ((conv => whnf); (first | refine Cnd.yes ?_ | refine Cnd.no ?_ | refine And.intro rfl ?_ | refine And.intro (by omega) ?_ | (refine And.intro ?_ ?_; focus (simp only [IntKind.wrap_i64, IntKind.wrap_u64, IntKind.wrap_u32]; omega)) | (refine And.intro ?_ ?_; focus (simp only [zl1, zl2, zl3, zl4, zl5, zl6, zl7, zl8, zl9] <;> omega)) | refine Alt.std ?_ | (refine Cnd.tt ?_ ?_; focus (first | (apply decide_eq_true; omega) | (simp only [zq1, zq2, zq3, zq4, zq5, zq6, zq7, zq8, zq9, zq10, zq11, zq12] <;> omega) | rfl)) | (refine Cnd.ff ?_ ?_; focus (first | (apply decide_eq_false; omega) | (simp only [zq1, zq2, zq3, zq4, zq5, zq6, zq7, zq8, zq9, zq10, zq11, zq12] <;> omega) | rfl))))
                conv => whnf
                refine ⟨InvS 126 (fun s : Nat => l.length - s) (fun s : Nat => j < s ∧ s ≤ l.length) (fun s : Nat => [(0, .slc 0 13 0 l.length), (8, .slc 1 13 0 l.length), (9, .v (.int .i64 j)), (10, .v (.int .i64 s))]) (fun s : Nat => [Ent.row false e ock (l.map orow), .row true 30 ock (m'.map orow)]) M1, ⟨(fun s : Nat => l.length - s) (j + 1), [0, 1], tmk 126 0 ((fun s : Nat => [(0, .slc 0 13 0 l.length), (8, .slc 1 13 0 l.length), (9, .v (.int .i64 j)), (10, .v (.int .i64 s))]) (j + 1)), (fun s : Nat => [Ent.row false e ock (l.map orow), .row true 30 ock (m'.map orow)]) (j + 1), ?_⟩, ?_⟩
                · repeat ((conv => whnf); (first | refine Cnd.yes ?_ | refine Cnd.no ?_ | refine And.intro rfl ?_ | refine And.intro (by omega) ?_ | (refine And.intro ?_ ?_; focus (simp only [IntKind.wrap_i64, IntKind.wrap_u64, IntKind.wrap_u32]; omega)) | (refine And.intro ?_ ?_; focus (simp only [zl1, zl2, zl3, zl4, zl5, zl6, zl7, zl8, zl9] <;> omega)) | refine Alt.std ?_))
                  conv => whnf
                  exact ⟨j + 1, ⟨Nat.lt_succ_self j, hjl⟩, rfl, rfl, (tmkK_eq _ _ _ _).mpr rfl, rfl⟩
                · rintro cnt tm hp M1 ⟨k, hC_, rfl, rfl, htm, hhp_⟩
                  replace hC_ : j < k ∧ k ≤ l.length := hC_
                  obtain ⟨hjk, hk⟩ := hC_
                  replace htm : tmkK 126 0 [(0, .slc 0 13 0 l.length), (8, .slc 1 13 0 l.length), (9, .v (.int .i64 j)), (10, .v (.int .i64 k))] (fun l => tm = l) := htm
                  conv at htm => whnf
                  subst htm
                  replace hhp_ : hp = [Ent.row false e ock (l.map orow), .row true 30 ock (m'.map orow)] := hhp_
                  subst hhp_
                  repeat ((conv => whnf); (first | refine Cnd.yes ?_ | refine Cnd.no ?_ | refine And.intro rfl ?_ | refine And.intro (by omega) ?_ | (refine And.intro ?_ ?_; focus (simp only [IntKind.wrap_i64, IntKind.wrap_u64, IntKind.wrap_u32]; omega)) | (refine And.intro ?_ ?_; focus (simp only [zl1, zl2, zl3, zl4, zl5, zl6, zl7, zl8, zl9] <;> omega)) | refine Alt.std ?_ | (refine Cnd.tt ?_ ?_; focus (first | (apply decide_eq_true; omega) | (simp only [zq1, zq2, zq3, zq4, zq5, zq6, zq7, zq8, zq9, zq10, zq11, zq12] <;> omega) | rfl)) | (refine Cnd.ff ?_ ?_; focus (first | (apply decide_eq_false; omega) | (simp only [zq1, zq2, zq3, zq4, zq5, zq6, zq7, zq8, zq9, zq10, zq11, zq12] <;> omega) | rfl))))
                  conv => whnf
                  refine Cnd.mk (fun hlt2 => ?_) fun hge2 => ?_
                  · have hkl : k < l.length := by have := of_decide_eq_true hlt2; omega
                    repeat ((conv => whnf); (first | refine Cnd.yes ?_ | refine Cnd.no ?_ | refine And.intro rfl ?_ | refine And.intro (by omega) ?_ | (refine And.intro ?_ ?_; focus (simp only [IntKind.wrap_i64, IntKind.wrap_u64, IntKind.wrap_u32]; omega)) | (refine And.intro ?_ ?_; focus (simp only [zl1, zl2, zl3, zl4, zl5, zl6, zl7, zl8, zl9] <;> omega)) | refine Alt.std ?_ | (refine Cnd.tt ?_ ?_; focus (first | (apply decide_eq_true; omega) | (simp only [zq1, zq2, zq3, zq4, zq5, zq6, zq7, zq8, zq9, zq10, zq11, zq12] <;> omega) | rfl)) | (refine Cnd.ff ?_ ?_; focus (first | (apply decide_eq_false; omega) | (simp only [zq1, zq2, zq3, zq4, zq5, zq6, zq7, zq8, zq9, zq10, zq11, zq12] <;> omega) | rfl))))
                    conv => whnf
                    refine ⟨false, e, l, j, k, rfl, rfl, by omega, hF, hDl.mono hM12, ?_⟩
                    repeat ((conv => whnf); (first | refine Cnd.yes ?_ | refine Cnd.no ?_ | refine And.intro rfl ?_ | refine And.intro (by omega) ?_ | (refine And.intro ?_ ?_; focus (simp only [IntKind.wrap_i64, IntKind.wrap_u64, IntKind.wrap_u32]; omega)) | (refine And.intro ?_ ?_; focus (simp only [zl1, zl2, zl3, zl4, zl5, zl6, zl7, zl8, zl9] <;> omega)) | refine Alt.std ?_ | (refine Cnd.tt ?_ ?_; focus (first | (apply decide_eq_true; omega) | (simp only [zq1, zq2, zq3, zq4, zq5, zq6, zq7, zq8, zq9, zq10, zq11, zq12] <;> omega) | rfl)) | (refine Cnd.ff ?_ ?_; focus (first | (apply decide_eq_false; omega) | (simp only [zq1, zq2, zq3, zq4, zq5, zq6, zq7, zq8, zq9, zq10, zq11, zq12] <;> omega) | rfl))))
                    conv => whnf
                    refine Cnd.mk (fun hp => ?_) fun hp => ?_
                    · have hw := why_more hG'.more j k hjk hkl (of_decide_eq_true hp)
                      repeat ((conv => whnf); (first | refine Cnd.yes ?_ | refine Cnd.no ?_ | refine And.intro rfl ?_ | refine And.intro (by omega) ?_ | (refine And.intro ?_ ?_; focus (simp only [IntKind.wrap_i64, IntKind.wrap_u64, IntKind.wrap_u32]; omega)) | (refine And.intro ?_ ?_; focus (simp only [zl1, zl2, zl3, zl4, zl5, zl6, zl7, zl8, zl9] <;> omega)) | refine Alt.std ?_ | (refine Cnd.tt ?_ ?_; focus (first | (apply decide_eq_true; omega) | (simp only [zq1, zq2, zq3, zq4, zq5, zq6, zq7, zq8, zq9, zq10, zq11, zq12] <;> omega) | rfl)) | (refine Cnd.ff ?_ ?_; focus (first | (apply decide_eq_false; omega) | (simp only [zq1, zq2, zq3, zq4, zq5, zq6, zq7, zq8, zq9, zq10, zq11, zq12] <;> omega) | rfl))))
                      conv => whnf
                      refine ⟨true, 30, m', j, k, by rw [hG'.len], rfl, by rw [hG'.len]; omega, hG'.fit, hG'.deps, ?_⟩
                      repeat ((conv => whnf); (first | refine Cnd.yes ?_ | refine Cnd.no ?_ | refine And.intro rfl ?_ | refine And.intro (by omega) ?_ | (refine And.intro ?_ ?_; focus (simp only [IntKind.wrap_i64, IntKind.wrap_u64, IntKind.wrap_u32]; omega)) | (refine And.intro ?_ ?_; focus (simp only [zl1, zl2, zl3, zl4, zl5, zl6, zl7, zl8, zl9] <;> omega)) | refine Alt.std ?_ | (refine Cnd.tt ?_ ?_; focus (first | (apply decide_eq_true; omega) | (simp only [zq1, zq2, zq3, zq4, zq5, zq6, zq7, zq8, zq9, zq10, zq11, zq12] <;> omega) | rfl)) | (refine Cnd.ff ?_ ?_; focus (first | (apply decide_eq_false; omega) | (simp only [zq1, zq2, zq3, zq4, zq5, zq6, zq7, zq8, zq9, zq10, zq11, zq12] <;> omega) | rfl))))
                      conv => whnf
                      (refine ⟨(fun s : Nat => l.length - s) (k + 1), [0, 1], tmk 126 0 ((fun s : Nat => [(0, .slc 0 13 0 l.length), (8, .slc 1 13 0 l.length), (9, .v (.int .i64 j)), (10, .v (.int .i64 s))]) (k + 1)), (fun s : Nat => [Ent.row false e ock (l.map orow), .row true 30 ock (m'.map orow)]) (k + 1), ?_, ?_⟩; focus (first | (simp only []; omega) | omega))
                      repeat ((conv => whnf); (first | refine Cnd.yes ?_ | refine Cnd.no ?_ | refine And.intro rfl ?_ | refine And.intro (by omega) ?_ | (refine And.intro ?_ ?_; focus (simp only [IntKind.wrap_i64, IntKind.wrap_u64, IntKind.wrap_u32]; omega)) | (refine And.intro ?_ ?_; focus (simp only [zl1, zl2, zl3, zl4, zl5, zl6, zl7, zl8, zl9] <;> omega)) | refine Alt.std ?_))
                      conv => whnf
                      exact ⟨k + 1, ⟨by omega, hkl⟩, rfl, rfl, (tmkK_eq _ _ _ _).mpr rfl, rfl⟩
                    · repeat ((conv => whnf); (first | refine Cnd.yes ?_ | refine Cnd.no ?_ | refine And.intro rfl ?_ | refine And.intro (by omega) ?_ | (refine And.intro ?_ ?_; focus (simp only [IntKind.wrap_i64, IntKind.wrap_u64, IntKind.wrap_u32]; omega)) | (refine And.intro ?_ ?_; focus (simp only [zl1, zl2, zl3, zl4, zl5, zl6, zl7, zl8, zl9] <;> omega)) | refine Alt.std ?_ | (refine Cnd.tt ?_ ?_; focus (first | (apply decide_eq_true; omega) | (simp only [zq1, zq2, zq3, zq4, zq5, zq6, zq7, zq8, zq9, zq10, zq11, zq12] <;> omega) | rfl)) | (refine Cnd.ff ?_ ?_; focus (first | (apply decide_eq_false; omega) | (simp only [zq1, zq2, zq3, zq4, zq5, zq6, zq7, zq8, zq9, zq10, zq11, zq12] <;> omega) | rfl))))
                      conv => whnf
                      (refine ⟨(fun s : Nat => l.length - s) (k + 1), [0, 1], tmk 126 0 ((fun s : Nat => [(0, .slc 0 13 0 l.length), (8, .slc 1 13 0 l.length), (9, .v (.int .i64 j)), (10, .v (.int .i64 s))]) (k + 1)), (fun s : Nat => [Ent.row false e ock (l.map orow), .row true 30 ock (m'.map orow)]) (k + 1), ?_, ?_⟩; focus (first | (simp only []; omega) | omega))
                      repeat ((conv => whnf); (first | refine Cnd.yes ?_ | refine Cnd.no ?_ | refine And.intro rfl ?_ | refine And.intro (by omega) ?_ | (refine And.intro ?_ ?_; focus (simp only [IntKind.wrap_i64, IntKind.wrap_u64, IntKind.wrap_u32]; omega)) | (refine And.intro ?_ ?_; focus (simp only [zl1, zl2, zl3, zl4, zl5, zl6, zl7, zl8, zl9] <;> omega)) | refine Alt.std ?_))
                      conv => whnf
                      exact ⟨k + 1, ⟨by omega, hkl⟩, rfl, rfl, (tmkK_eq _ _ _ _).mpr rfl, rfl⟩
                  · repeat ((conv => whnf); (first | refine Cnd.yes ?_ | refine Cnd.no ?_ | refine And.intro rfl ?_ | refine And.intro (by omega) ?_ | (refine And.intro ?_ ?_; focus (simp only [IntKind.wrap_i64, IntKind.wrap_u64, IntKind.wrap_u32]; omega)) | (refine And.intro ?_ ?_; focus (simp only [zl1, zl2, zl3, zl4, zl5, zl6, zl7, zl8, zl9] <;> omega)) | refine Alt.std ?_ | (refine Cnd.tt ?_ ?_; focus (first | (apply decide_eq_true; omega) | (simp only [zq1, zq2, zq3, zq4, zq5, zq6, zq7, zq8, zq9, zq10, zq11, zq12] <;> omega) | rfl)) | (refine Cnd.ff ?_ ?_; focus (first | (apply decide_eq_false; omega) | (simp only [zq1, zq2, zq3, zq4, zq5, zq6, zq7, zq8, zq9, zq10, zq11, zq12] <;> omega) | rfl))))
                    conv => whnf
                    (refine ⟨(fun s : Nat => l.length - s) (j + 1), [0, 1], tmk 126 0 ((fun s : Nat => [(0, .slc 0 13 0 l.length), (8, .slc 1 13 0 l.length), (9, .v (.int .i64 s))]) (j + 1)), (fun s : Nat => [Ent.row false e ock (l.map orow), .row true 30 ock (m'.map orow)]) (j + 1), ?_, ?_⟩; focus (first | (simp only []; omega) | omega))
                    repeat ((conv => whnf); (first | refine Cnd.yes ?_ | refine Cnd.no ?_ | refine And.intro rfl ?_ | refine And.intro (by omega) ?_ | (refine And.intro ?_ ?_; focus (simp only [IntKind.wrap_i64, IntKind.wrap_u64, IntKind.wrap_u32]; omega)) | (refine And.intro ?_ ?_; focus (simp only [zl1, zl2, zl3, zl4, zl5, zl6, zl7, zl8, zl9] <;> omega)) | refine Alt.std ?_))
                    conv => whnf
                    exact ⟨j + 1, hjl, rfl, rfl, (tmkK_eq _ _ _ _).mpr rfl, rfl⟩
              · repeat ((conv => whnf); (first | refine Cnd.yes ?_ | refine Cnd.no ?_ | refine And.intro rfl ?_ | refine And.intro (by omega) ?_ | (refine And.intro ?_ ?_; focus (simp only [IntKind.wrap_i64, IntKind.wrap_u64, IntKind.wrap_u32]; omega)) | (refine And.intro ?_ ?_; focus (simp only [zl1, zl2, zl3, zl4, zl5, zl6, zl7, zl8, zl9] <;> omega)) | refine Alt.std ?_ | (refine Cnd.tt ?_ ?_; focus (first | (apply decide_eq_true; omega) | (simp only [zq1, zq2, zq3, zq4, zq5, zq6, zq7, zq8, zq9, zq10, zq11, zq12] <;> omega) | rfl)) | (refine Cnd.ff ?_ ?_; focus (first | (apply decide_eq_false; omega) | (simp only [zq1, zq2, zq3, zq4, zq5, zq6, zq7, zq8, zq9, zq10, zq11, zq12] <;> omega) | rfl))))
                conv => whnf
                exact hK _ _ hM12
          · repeat ((conv => whnf); (first | refine Cnd.yes ?_ | refine Cnd.no ?_ | refine And.intro rfl ?_ | refine And.intro (by omega) ?_ | (refine And.intro ?_ ?_; focus (simp only [IntKind.wrap_i64, IntKind.wrap_u64, IntKind.wrap_u32]; omega)) | (refine And.intro ?_ ?_; focus (simp only [zl1, zl2, zl3, zl4, zl5, zl6, zl7, zl8, zl9] <;> omega)) | refine Alt.std ?_ | (refine Cnd.tt ?_ ?_; focus (first | (apply decide_eq_true; omega) | (simp only [zq1, zq2, zq3, zq4, zq5, zq6, zq7, zq8, zq9, zq10, zq11, zq12] <;> omega) | rfl)) | (refine Cnd.ff ?_ ?_; focus (first | (apply decide_eq_false; omega) | (simp only [zq1, zq2, zq3, zq4, zq5, zq6, zq7, zq8, zq9, zq10, zq11, zq12] <;> omega) | rfl))))
            conv => whnf
            refine ⟨InvS 126 (fun s : Nat => l.length - s) (fun s : Nat => s ≤ l.length) (fun s : Nat => [(0, .slc 0 13 0 l.length), (8, .slc 1 13 0 l.length), (9, .v (.int .i64 s))]) (fun s : Nat => [Ent.row false e ock (l.map orow), .row true 30 ock (m.map orow)]) M1, ⟨(fun s : Nat => l.length - s) 0, [0, 1], tmk 126 0 ((fun s : Nat => [(0, .slc 0 13 0 l.length), (8, .slc 1 13 0 l.length), (9, .v (.int .i64 s))]) 0), (fun s : Nat => [Ent.row false e ock (l.map orow), .row true 30 ock (m.map orow)]) 0, ?_⟩, ?_⟩
            · repeat ((conv => whnf); (first | refine Cnd.yes ?_ | refine Cnd.no ?_ | refine And.intro rfl ?_ | refine And.intro (by omega) ?_ | (refine And.intro ?_ ?_; focus (simp only [IntKind.wrap_i64, IntKind.wrap_u64, IntKind.wrap_u32]; omega)) | (refine And.intro ?_ ?_; focus (simp only [zl1, zl2, zl3, zl4, zl5, zl6, zl7, zl8, zl9] <;> omega)) | refine Alt.std ?_))
              conv => whnf
              try refine ⟨hs, ?_⟩
              repeat ((conv => whnf); (first | refine Cnd.yes ?_ | refine Cnd.no ?_ | refine And.intro rfl ?_ | refine And.intro (by omega) ?_ | (refine And.intro ?_ ?_; focus (simp only [IntKind.wrap_i64, IntKind.wrap_u64, IntKind.wrap_u32]; omega)) | (refine And.intro ?_ ?_; focus (simp only [zl1, zl2, zl3, zl4, zl5, zl6, zl7, zl8, zl9] <;> omega)) | refine Alt.std ?_))
              conv => whnf
              exact ⟨0, Nat.zero_le _, rfl, rfl, (tmkK_eq _ _ _ _).mpr rfl, rfl⟩
            · rintro cnt tm hp M1 ⟨j, hC_, rfl, rfl, htm, hhp_⟩
              replace hC_ : j ≤ l.length := hC_
              have hj := hC_
              replace htm : tmkK 126 0 [(0, .slc 0 13 0 l.length), (8, .slc 1 13 0 l.length), (9, .v (.int .i64 j))] (fun l => tm = l) := htm
              conv at htm => whnf
              subst htm
              replace hhp_ : hp = [Ent.row false e ock (l.map orow), .row true 30 ock (m.map orow)] := hhp_
              subst hhp_
              repeat ((conv => whnf); (first | refine Cnd.yes ?_ | refine Cnd.no ?_ | refine And.intro rfl ?_ | refine And.intro (by omega) ?_ | (refine And.intro ?_ ?_; focus (simp only [IntKind.wrap_i64, IntKind.wrap_u64, IntKind.wrap_u32]; omega)) | (refine And.intro ?_ ?_; focus (simp only [zl1, zl2, zl3, zl4, zl5, zl6, zl7, zl8, zl9] <;> omega)) | refine Alt.std ?_ | (refine Cnd.tt ?_ ?_; focus (first | (apply decide_eq_true; omega) | (simp only [zq1, zq2, zq3, zq4, zq5, zq6, zq7, zq8, zq9, zq10, zq11, zq12] <;> omega) | rfl)) | (refine Cnd.ff ?_ ?_; focus (first | (apply decide_eq_false; omega) | (simp only [zq1, zq2, zq3, zq4, zq5, zq6, zq7, zq8, zq9, zq10, zq11, zq12] <;> omega) | rfl))))
              conv => whnf
              refine Cnd.mk (fun hlt => ?_) fun hge => ?_
              · have hjl : j < l.length := by have := of_decide_eq_true hlt; omega
                repeat ((conv => whnf); (first | refine Cnd.yes ?_ | refine Cnd.no ?_ | refine And.intro rfl ?_ | refine And.intro (by omega) ?_ | (refine And.intro ?_ ?_; focus (simp only [IntKind.wrap_i64, IntKind.wrap_u64, IntKind.wrap_u32]; omega)) | (refine And.intro ?_ ?_; focus (simp only [zl1, zl2, zl3, zl4, zl5, zl6, zl7, zl8, zl9] <;> omega)) | refine Alt.std ?_ | (refine Cnd.tt ?_ ?_; focus (first | (apply decide_eq_true; omega) | (simp only [zq1, zq2, zq3, zq4, zq5, zq6, zq7, zq8, zq9, zq10, zq11, zq12] <;> omega) | rfl)) | (refine Cnd.ff ?_ ?_; focus (first | (apply decide_eq_false; omega) | (simp only [zq1, zq2, zq3, zq4, zq5, zq6, zq7, zq8, zq9, zq10, zq11, zq12] <;> omega) | rfl))))
                conv => whnf
                refine ⟨InvS 126 (fun s : Nat => l.length - s) (fun s : Nat => j < s ∧ s ≤ l.length) (fun s : Nat => [(0, .slc 0 13 0 l.length), (8, .slc 1 13 0 l.length), (9, .v (.int .i64 j)), (10, .v (.int .i64 s))]) (fun s : Nat => [Ent.row false e ock (l.map orow), .row true 30 ock (m.map orow)]) M1, ⟨(fun s : Nat => l.length - s) (j + 1), [0, 1], tmk 126 0 ((fun s : Nat => [(0, .slc 0 13 0 l.length), (8, .slc 1 13 0 l.length), (9, .v (.int .i64 j)), (10, .v (.int .i64 s))]) (j + 1)), (fun s : Nat => [Ent.row false e ock (l.map orow), .row true 30 ock (m.map orow)]) (j + 1), ?_⟩, ?_⟩
                · repeat ((conv => whnf); (first | refine Cnd.yes ?_ | refine Cnd.no ?_ | refine And.intro rfl ?_ | refine And.intro (by omega) ?_ | (refine And.intro ?_ ?_; focus (simp only [IntKind.wrap_i64, IntKind.wrap_u64, IntKind.wrap_u32]; omega)) | (refine And.intro ?_ ?_; focus (simp only [zl1, zl2, zl3, zl4, zl5, zl6, zl7, zl8, zl9] <;> omega)) | refine Alt.std ?_))
                  conv => whnf
                  exact ⟨j + 1, ⟨Nat.lt_succ_self j, hjl⟩, rfl, rfl, (tmkK_eq _ _ _ _).mpr rfl, rfl⟩
                · rintro cnt tm hp M1 ⟨k, hC_, rfl, rfl, htm, hhp_⟩
                  replace hC_ : j < k ∧ k ≤ l.length := hC_
                  obtain ⟨hjk, hk⟩ := hC_
                  replace htm : tmkK 126 0 [(0, .slc 0 13 0 l.length), (8, .slc 1 13 0 l.length), (9, .v (.int .i64 j)), (10, .v (.int .i64 k))] (fun l => tm = l) := htm
                  conv at htm => whnf
                  subst htm
                  replace hhp_ : hp = [Ent.row false e ock (l.map orow), .row true 30 ock (m.map orow)] := hhp_
                  subst hhp_
                  repeat ((conv => whnf); (first | refine Cnd.yes ?_ | refine Cnd.no ?_ | refine And.intro rfl ?_ | refine And.intro (by omega) ?_ | (refine And.intro ?_ ?_; focus (simp only [IntKind.wrap_i64, IntKind.wrap_u64, IntKind.wrap_u32]; omega)) | (refine And.intro ?_ ?_; focus (simp only [zl1, zl2, zl3, zl4, zl5, zl6, zl7, zl8, zl9] <;> omega)) | refine Alt.std ?_ | (refine Cnd.tt ?_ ?_; focus (first | (apply decide_eq_true; omega) | (simp only [zq1, zq2, zq3, zq4, zq5, zq6, zq7, zq8, zq9, zq10, zq11, zq12] <;> omega) | rfl)) | (refine Cnd.ff ?_ ?_; focus (first | (apply decide_eq_false; omega) | (simp only [zq1, zq2, zq3, zq4, zq5, zq6, zq7, zq8, zq9, zq10, zq11, zq12] <;> omega) | rfl))))
                  conv => whnf
                  refine Cnd.mk (fun hlt2 => ?_) fun hge2 => ?_
                  · have hkl : k < l.length := by have := of_decide_eq_true hlt2; omega
                    repeat ((conv => whnf); (first | refine Cnd.yes ?_ | refine Cnd.no ?_ | refine And.intro rfl ?_ | refine And.intro (by omega) ?_ | (refine And.intro ?_ ?_; focus (simp only [IntKind.wrap_i64, IntKind.wrap_u64, IntKind.wrap_u32]; omega)) | (refine And.intro ?_ ?_; focus (simp only [zl1, zl2, zl3, zl4, zl5, zl6, zl7, zl8, zl9] <;> omega)) | refine Alt.std ?_ | (refine Cnd.tt ?_ ?_; focus (first | (apply decide_eq_true; omega) | (simp only [zq1, zq2, zq3, zq4, zq5, zq6, zq7, zq8, zq9, zq10, zq11, zq12] <;> omega) | rfl)) | (refine Cnd.ff ?_ ?_; focus (first | (apply decide_eq_false; omega) | (simp only [zq1, zq2, zq3, zq4, zq5, zq6, zq7, zq8, zq9, zq10, zq11, zq12] <;> omega) | rfl))))
                    conv => whnf
                    refine ⟨false, e, l, j, k, rfl, rfl, by omega, hF, hDl.mono hM1, ?_⟩
                    repeat ((conv => whnf); (first | refine Cnd.yes ?_ | refine Cnd.no ?_ | refine And.intro rfl ?_ | refine And.intro (by omega) ?_ | (refine And.intro ?_ ?_; focus (simp only [IntKind.wrap_i64, IntKind.wrap_u64, IntKind.wrap_u32]; omega)) | (refine And.intro ?_ ?_; focus (simp only [zl1, zl2, zl3, zl4, zl5, zl6, zl7, zl8, zl9] <;> omega)) | refine Alt.std ?_ | (refine Cnd.tt ?_ ?_; focus (first | (apply decide_eq_true; omega) | (simp only [zq1, zq2, zq3, zq4, zq5, zq6, zq7, zq8, zq9, zq10, zq11, zq12] <;> omega) | rfl)) | (refine Cnd.ff ?_ ?_; focus (first | (apply decide_eq_false; omega) | (simp only [zq1, zq2, zq3, zq4, zq5, zq6, zq7, zq8, zq9, zq10, zq11, zq12] <;> omega) | rfl))))
                    conv => whnf
                    refine Cnd.mk (fun hp => ?_) fun hp => ?_
                    · have hw := why_more hG.more j k hjk hkl (of_decide_eq_true hp)
                      repeat ((conv => whnf); (first | refine Cnd.yes ?_ | refine Cnd.no ?_ | refine And.intro rfl ?_ | refine And.intro (by omega) ?_ | (refine And.intro ?_ ?_; focus (simp only [IntKind.wrap_i64, IntKind.wrap_u64, IntKind.wrap_u32]; omega)) | (refine And.intro ?_ ?_; focus (simp only [zl1, zl2, zl3, zl4, zl5, zl6, zl7, zl8, zl9] <;> omega)) | refine Alt.std ?_ | (refine Cnd.tt ?_ ?_; focus (first | (apply decide_eq_true; omega) | (simp only [zq1, zq2, zq3, zq4, zq5, zq6, zq7, zq8, zq9, zq10, zq11, zq12] <;> omega) | rfl)) | (refine Cnd.ff ?_ ?_; focus (first | (apply decide_eq_false; omega) | (simp only [zq1, zq2, zq3, zq4, zq5, zq6, zq7, zq8, zq9, zq10, zq11, zq12] <;> omega) | rfl))))
                      conv => whnf
                      refine ⟨true, 30, m, j, k, by rw [hG.len], rfl, by rw [hG.len]; omega, hG.fit, hG.deps, ?_⟩
                      repeat ((conv => whnf); (first | refine Cnd.yes ?_ | refine Cnd.no ?_ | refine And.intro rfl ?_ | refine And.intro (by omega) ?_ | (refine And.intro ?_ ?_; focus (simp only [IntKind.wrap_i64, IntKind.wrap_u64, IntKind.wrap_u32]; omega)) | (refine And.intro ?_ ?_; focus (simp only [zl1, zl2, zl3, zl4, zl5, zl6, zl7, zl8, zl9] <;> omega)) | refine Alt.std ?_ | (refine Cnd.tt ?_ ?_; focus (first | (apply decide_eq_true; omega) | (simp only [zq1, zq2, zq3, zq4, zq5, zq6, zq7, zq8, zq9, zq10, zq11, zq12] <;> omega) | rfl)) | (refine Cnd.ff ?_ ?_; focus (first | (apply decide_eq_false; omega) | (simp only [zq1, zq2, zq3, zq4, zq5, zq6, zq7, zq8, zq9, zq10, zq11, zq12] <;> omega) | rfl))))
                      conv => whnf
                      (refine ⟨(fun s : Nat => l.length - s) (k + 1), [0, 1], tmk 126 0 ((fun s : Nat => [(0, .slc 0 13 0 l.length), (8, .slc 1 13 0 l.length), (9, .v (.int .i64 j)), (10, .v (.int .i64 s))]) (k + 1)), (fun s : Nat => [Ent.row false e ock (l.map orow), .row true 30 ock (m.map orow)]) (k + 1), ?_, ?_⟩; focus (first | (simp only []; omega) | omega))
                      repeat ((conv => whnf); (first | refine Cnd.yes ?_ | refine Cnd.no ?_ | refine And.intro rfl ?_ | refine And.intro (by omega) ?_ | (refine And.intro ?_ ?_; focus (simp only [IntKind.wrap_i64, IntKind.wrap_u64, IntKind.wrap_u32]; omega)) | (refine And.intro ?_ ?_; focus (simp only [zl1, zl2, zl3, zl4, zl5, zl6, zl7, zl8, zl9] <;> omega)) | refine Alt.std ?_))
                      conv => whnf
                      exact ⟨k + 1, ⟨by omega, hkl⟩, rfl, rfl, (tmkK_eq _ _ _ _).mpr rfl, rfl⟩
                    · repeat ((conv => whnf); (first | refine Cnd.yes ?_ | refine Cnd.no ?_ | refine And.intro rfl ?_ | refine And.intro (by omega) ?_ | (refine And.intro ?_ ?_; focus (simp only [IntKind.wrap_i64, IntKind.wrap_u64, IntKind.wrap_u32]; omega)) | (refine And.intro ?_ ?_; focus (simp only [zl1, zl2, zl3, zl4, zl5, zl6, zl7, zl8, zl9] <;> omega)) | refine Alt.std ?_ | (refine Cnd.tt ?_ ?_; focus (first | (apply decide_eq_true; omega) | (simp only [zq1, zq2, zq3, zq4, zq5, zq6, zq7, zq8, zq9, zq10, zq11, zq12] <;> omega) | rfl)) | (refine Cnd.ff ?_ ?_; focus (first | (apply decide_eq_false; omega) | (simp only [zq1, zq2, zq3, zq4, zq5, zq6, zq7, zq8, zq9, zq10, zq11, zq12] <;> omega) | rfl))))
                      conv => whnf
                      (refine ⟨(fun s : Nat => l.length - s) (k + 1), [0, 1], tmk 126 0 ((fun s : Nat => [(0, .slc 0 13 0 l.length), (8, .slc 1 13 0 l.length), (9, .v (.int .i64 j)), (10, .v (.int .i64 s))]) (k + 1)), (fun s : Nat => [Ent.row false e ock (l.map orow), .row true 30 ock (m.map orow)]) (k + 1), ?_, ?_⟩; focus (first | (simp only []; omega) | omega))
                      repeat ((conv => whnf); (first | refine Cnd.yes ?_ | refine Cnd.no ?_ | refine And.intro rfl ?_ | refine And.intro (by omega) ?_ | (refine And.intro ?_ ?_; focus (simp only [IntKind.wrap_i64, IntKind.wrap_u64, IntKind.wrap_u32]; omega)) | (refine And.intro ?_ ?_; focus (simp only [zl1, zl2, zl3, zl4, zl5, zl6, zl7, zl8, zl9] <;> omega)) | refine Alt.std ?_))
                      conv => whnf
                      exact ⟨k + 1, ⟨by omega, hkl⟩, rfl, rfl, (tmkK_eq _ _ _ _).mpr rfl, rfl⟩
                  · repeat ((conv => whnf); (first | refine Cnd.yes ?_ | refine Cnd.no ?_ | refine And.intro rfl ?_ | refine And.intro (by omega) ?_ | (refine And.intro ?_ ?_; focus (simp only [IntKind.wrap_i64, IntKind.wrap_u64, IntKind.wrap_u32]; omega)) | (refine And.intro ?_ ?_; focus (simp only [zl1, zl2, zl3, zl4, zl5, zl6, zl7, zl8, zl9] <;> omega)) | refine Alt.std ?_ | (refine Cnd.tt ?_ ?_; focus (first | (apply decide_eq_true; omega) | (simp only [zq1, zq2, zq3, zq4, zq5, zq6, zq7, zq8, zq9, zq10, zq11, zq12] <;> omega) | rfl)) | (refine Cnd.ff ?_ ?_; focus (first | (apply decide_eq_false; omega) | (simp only [zq1, zq2, zq3, zq4, zq5, zq6, zq7, zq8, zq9, zq10, zq11, zq12] <;> omega) | rfl))))
                    conv => whnf
                    (refine ⟨(fun s : Nat => l.length - s) (j + 1), [0, 1], tmk 126 0 ((fun s : Nat => [(0, .slc 0 13 0 l.length), (8, .slc 1 13 0 l.length), (9, .v (.int .i64 s))]) (j + 1)), (fun s : Nat => [Ent.row false e ock (l.map orow), .row true 30 ock (m.map orow)]) (j + 1), ?_, ?_⟩; focus (first | (simp only []; omega) | omega))
                    repeat ((conv => whnf); (first | refine Cnd.yes ?_ | refine Cnd.no ?_ | refine And.intro rfl ?_ | refine And.intro (by omega) ?_ | (refine And.intro ?_ ?_; focus (simp only [IntKind.wrap_i64, IntKind.wrap_u64, IntKind.wrap_u32]; omega)) | (refine And.intro ?_ ?_; focus (simp only [zl1, zl2, zl3, zl4, zl5, zl6, zl7, zl8, zl9] <;> omega)) | refine Alt.std ?_))
                    conv => whnf
                    exact ⟨j + 1, hjl, rfl, rfl, (tmkK_eq _ _ _ _).mpr rfl, rfl⟩
              · repeat ((conv => whnf); (first | refine Cnd.yes ?_ | refine Cnd.no ?_ | refine And.intro rfl ?_ | refine And.intro (by omega) ?_ | (refine And.intro ?_ ?_; focus (simp only [IntKind.wrap_i64, IntKind.wrap_u64, IntKind.wrap_u32]; omega)) | (refine And.intro ?_ ?_; focus (simp only [zl1, zl2, zl3, zl4, zl5, zl6, zl7, zl8, zl9] <;> omega)) | refine Alt.std ?_ | (refine Cnd.tt ?_ ?_; focus (first | (apply decide_eq_true; omega) | (simp only [zq1, zq2, zq3, zq4, zq5, zq6, zq7, zq8, zq9, zq10, zq11, zq12] <;> omega) | rfl)) | (refine Cnd.ff ?_ ?_; focus (first | (apply decide_eq_false; omega) | (simp only [zq1, zq2, zq3, zq4, zq5, zq6, zq7, zq8, zq9, zq10, zq11, zq12] <;> omega) | rfl))))
                conv => whnf
                exact hK _ _ hM1
        · by_cases h4 : x.k = 4
          · have hG' : Good M1 l (m.set i { x with pd := 3, sc := 3 }) := good_set hC (FLe.refl _) hF hS hil (hx ▸ ⟨rfl, rfl, rfl, rfl, id, id, fun _ => by_three, fun _ => by_three, fun _ => id, fun _ => id, fun _ => id⟩) ⟨k1.a, k1.d, k1.c⟩ (show x.da.length ≤ 41 by omega) (show x.dd.length ≤ 41 by omega) (show x.dc.length ≤ 41 by omega)
            have hs1 := op_set m him 8 [.int .i64 3] { x with pd := 3 } (by rw [hx]; rfl)
            have hs := op_set (m.set i { x with pd := 3 }) (show i < (m.set i { x with pd := 3 }).length by rw [List.length_set]; exact him) 9 [.int .i64 3] { x with pd := 3, sc := 3 } (by rw [get_set m him, if_pos rfl]; rfl)
            rw [List.set_set, ← hs1] at hs
            generalize m.set i { x with pd := 3, sc := 3 } = m' at hs hG'
            repeat ((conv => whnf); (first | refine Cnd.yes ?_ | refine Cnd.no ?_ | refine And.intro rfl ?_ | refine And.intro (by omega) ?_ | (refine And.intro ?_ ?_; focus (simp only [IntKind.wrap_i64, IntKind.wrap_u64, IntKind.wrap_u32]; omega)) | (refine And.intro ?_ ?_; focus (simp only [zl1, zl2, zl3, zl4, zl5, zl6, zl7, zl8, zl9] <;> omega)) | refine Alt.std ?_ | (refine Cnd.tt ?_ ?_; focus (first | (apply decide_eq_true; omega) | (simp only [zq1, zq2, zq3, zq4, zq5, zq6, zq7, zq8, zq9, zq10, zq11, zq12] <;> omega) | rfl)) | (refine Cnd.ff ?_ ?_; focus (first | (apply decide_eq_false; omega) | (simp only [zq1, zq2, zq3, zq4, zq5, zq6, zq7, zq8, zq9, zq10, zq11, zq12] <;> omega) | rfl))))
            conv => whnf
            rw [e0]
            repeat ((conv => whnf); (first | refine Cnd.yes ?_ | refine Cnd.no ?_ | refine And.intro rfl ?_ | refine And.intro (by omega) ?_ | (refine And.intro ?_ ?_; focus (simp only [IntKind.wrap_i64, IntKind.wrap_u64, IntKind.wrap_u32]; omega)) | (refine And.intro ?_ ?_; focus (simp only [zl1, zl2, zl3, zl4, zl5, zl6, zl7, zl8, zl9] <;> omega)) | refine Alt.std ?_ | (refine Cnd.tt ?_ ?_; focus (first | (apply decide_eq_true; omega) | (simp only [zq1, zq2, zq3, zq4, zq5, zq6, zq7, zq8, zq9, zq10, zq11, zq12] <;> omega) | rfl)) | (refine Cnd.ff ?_ ?_; focus (first | (apply decide_eq_false; omega) | (simp only [zq1, zq2, zq3, zq4, zq5, zq6, zq7, zq8, zq9, zq10, zq11, zq12] <;> omega) | rfl))))
            conv => whnf
            refine ⟨InvS 126 (fun s : Nat => l.length - s) (fun s : Nat => s ≤ l.length) (fun s : Nat => [(0, .slc 0 13 0 l.length), (8, .slc 1 13 0 l.length), (9, .v (.int .i64 s))]) (fun s : Nat => [Ent.row false e ock (l.map orow), .row true 30 ock (m'.map orow)]) M1, ⟨(fun s : Nat => l.length - s) 0, [0, 1], tmk 126 0 ((fun s : Nat => [(0, .slc 0 13 0 l.length), (8, .slc 1 13 0 l.length), (9, .v (.int .i64 s))]) 0), (fun s : Nat => [Ent.row false e ock (l.map orow), .row true 30 ock (m'.map orow)]) 0, ?_⟩, ?_⟩
            · repeat ((conv => whnf); (first | refine Cnd.yes ?_ | refine Cnd.no ?_ | refine And.intro rfl ?_ | refine And.intro (by omega) ?_ | (refine And.intro ?_ ?_; focus (simp only [IntKind.wrap_i64, IntKind.wrap_u64, IntKind.wrap_u32]; omega)) | (refine And.intro ?_ ?_; focus (simp only [zl1, zl2, zl3, zl4, zl5, zl6, zl7, zl8, zl9] <;> omega)) | refine Alt.std ?_))
              conv => whnf
              try refine ⟨hs, ?_⟩
              repeat ((conv => whnf); (first | refine Cnd.yes ?_ | refine Cnd.no ?_ | refine And.intro rfl ?_ | refine And.intro (by omega) ?_ | (refine And.intro ?_ ?_; focus (simp only [IntKind.wrap_i64, IntKind.wrap_u64, IntKind.wrap_u32]; omega)) | (refine And.intro ?_ ?_; focus (simp only [zl1, zl2, zl3, zl4, zl5, zl6, zl7, zl8, zl9] <;> omega)) | refine Alt.std ?_))
              conv => whnf
              exact ⟨0, Nat.zero_le _, rfl, rfl, (tmkK_eq _ _ _ _).mpr rfl, rfl⟩
            · rintro cnt tm hp M1 ⟨j, hC_, rfl, rfl, htm, hhp_⟩
              replace hC_ : j ≤ l.length := hC_
              have hj := hC_
              replace htm : tmkK 126 0 [(0, .slc 0 13 0 l.length), (8, .slc 1 13 0 l.length), (9, .v (.int .i64 j))] (fun l => tm = l) := htm
              conv at htm => whnf
              subst htm
              replace hhp_ : hp = [Ent.row false e ock (l.map orow), .row true 30 ock (m'.map orow)] := hhp_
              subst hhp_
              repeat ((conv => whnf); (first | refine Cnd.yes ?_ | refine Cnd.no ?_ | refine And.intro rfl ?_ | refine And.intro (by omega) ?_ | (refine And.intro ?_ ?_; focus (simp only [IntKind.wrap_i64, IntKind.wrap_u64, IntKind.wrap_u32]; omega)) | (refine And.intro ?_ ?_; focus (simp only [zl1, zl2, zl3, zl4, zl5, zl6, zl7, zl8, zl9] <;> omega)) | refine Alt.std ?_ | (refine Cnd.tt ?_ ?_; focus (first | (apply decide_eq_true; omega) | (simp only [zq1, zq2, zq3, zq4, zq5, zq6, zq7, zq8, zq9, zq10, zq11, zq12] <;> omega) | rfl)) | (refine Cnd.ff ?_ ?_; focus (first | (apply decide_eq_false; omega) | (simp only [zq1, zq2, zq3, zq4, zq5, zq6, zq7, zq8, zq9, zq10, zq11, zq12] <;> omega) | rfl))))
              conv => whnf
              refine Cnd.mk (fun hlt => ?_) fun hge => ?_
              · have hjl : j < l.length := by have := of_decide_eq_true hlt; omega
                repeat ((conv => whnf); (first | refine Cnd.yes ?_ | refine Cnd.no ?_ | refine And.intro rfl ?_ | refine And.intro (by omega) ?_ | (refine And.intro ?_ ?_; focus (simp only [IntKind.wrap_i64, IntKind.wrap_u64, IntKind.wrap_u32]; omega)) | (refine And.intro ?_ ?_; focus (simp only [zl1, zl2, zl3, zl4, zl5, zl6, zl7, zl8, zl9] <;> omega)) | refine Alt.std ?_ | (refine Cnd.tt ?_ ?_; focus (first | (apply decide_eq_true; omega) | (simp only [zq1, zq2, zq3, zq4, zq5, zq6, zq7, zq8, zq9, zq10, zq11, zq12] <;> omega) | rfl)) | (refine Cnd.ff ?_ ?_; focus (first | (apply decide_eq_false; omega) | (simp only [zq1, zq2, zq3, zq4, zq5, zq6, zq7, zq8, zq9, zq10, zq11, zq12] <;> omega) | rfl))))
                conv => whnf
                refine ⟨InvS 126 (fun s : Nat => l.length - s) (fun s : Nat => j < s ∧ s ≤ l.length) (fun s : Nat => [(0, .slc 0 13 0 l.length), (8, .slc 1 13 0 l.length), (9, .v (.int .i64 j)), (10, .v (.int .i64 s))]) (fun s : Nat => [Ent.row false e ock (l.map orow), .row true 30 ock (m'.map orow)]) M1, ⟨(fun s : Nat => l.length - s) (j + 1), [0, 1], tmk 126 0 ((fun s : Nat => [(0, .slc 0 13 0 l.length), (8, .slc 1 13 0 l.length), (9, .v (.int .i64 j)), (10, .v (.int .i64 s))]) (j + 1)), (fun s : Nat => [Ent.row false e ock (l.map orow), .row true 30 ock (m'.map orow)]) (j + 1), ?_⟩, ?_⟩
                · repeat ((conv => whnf); (first | refine Cnd.yes ?_ | refine Cnd.no ?_ | refine And.intro rfl ?_ | refine And.intro (by omega) ?_ | (refine And.intro ?_ ?_; focus (simp only [IntKind.wrap_i64, IntKind.wrap_u64, IntKind.wrap_u32]; omega)) | (refine And.intro ?_ ?_; focus (simp only [zl1, zl2, zl3, zl4, zl5, zl6, zl7, zl8, zl9] <;> omega)) | refine Alt.std ?_))
                  conv => whnf
                  exact ⟨j + 1, ⟨Nat.lt_succ_self j, hjl⟩, rfl, rfl, (tmkK_eq _ _ _ _).mpr rfl, rfl⟩
                · rintro cnt tm hp M1 ⟨k, hC_, rfl, rfl, htm, hhp_⟩
                  replace hC_ : j < k ∧ k ≤ l.length := hC_
                  obtain ⟨hjk, hk⟩ := hC_
                  replace htm : tmkK 126 0 [(0, .slc 0 13 0 l.length), (8, .slc 1 13 0 l.length), (9, .v (.int .i64 j)), (10, .v (.int .i64 k))] (fun l => tm = l) := htm
                  conv at htm => whnf
                  subst htm
                  replace hhp_ : hp = [Ent.row false e ock (l.map orow), .row true 30 ock (m'.map orow)] := hhp_
                  subst hhp_
                  repeat ((conv => whnf); (first | refine Cnd.yes ?_ | refine Cnd.no ?_ | refine And.intro rfl ?_ | refine And.intro (by omega) ?_ | (refine And.intro ?_ ?_; focus (simp only [IntKind.wrap_i64, IntKind.wrap_u64, IntKind.wrap_u32]; omega)) | (refine And.intro ?_ ?_; focus (simp only [zl1, zl2, zl3, zl4, zl5, zl6, zl7, zl8, zl9] <;> omega)) | refine Alt.std ?_ | (refine Cnd.tt ?_ ?_; focus (first | (apply decide_eq_true; omega) | (simp only [zq1, zq2, zq3, zq4, zq5, zq6, zq7, zq8, zq9, zq10, zq11, zq12] <;> omega) | rfl)) | (refine Cnd.ff ?_ ?_; focus (first | (apply decide_eq_false; omega) | (simp only [zq1, zq2, zq3, zq4, zq5, zq6, zq7, zq8, zq9, zq10, zq11, zq12] <;> omega) | rfl))))
                  conv => whnf
                  refine Cnd.mk (fun hlt2 => ?_) fun hge2 => ?_
                  · have hkl : k < l.length := by have := of_decide_eq_true hlt2; omega
                    repeat ((conv => whnf); (first | refine Cnd.yes ?_ | refine Cnd.no ?_ | refine And.intro rfl ?_ | refine And.intro (by omega) ?_ | (refine And.intro ?_ ?_; focus (simp only [IntKind.wrap_i64, IntKind.wrap_u64, IntKind.wrap_u32]; omega)) | (refine And.intro ?_ ?_; focus (simp only [zl1, zl2, zl3, zl4, zl5, zl6, zl7, zl8, zl9] <;> omega)) | refine Alt.std ?_ | (refine Cnd.tt ?_ ?_; focus (first | (apply decide_eq_true; omega) | (simp only [zq1, zq2, zq3, zq4, zq5, zq6, zq7, zq8, zq9, zq10, zq11, zq12] <;> omega) | rfl)) | (refine Cnd.ff ?_ ?_; focus (first | (apply decide_eq_false; omega) | (simp only [zq1, zq2, zq3, zq4, zq5, zq6, zq7, zq8, zq9, zq10, zq11, zq12] <;> omega) | rfl))))
                    conv => whnf
                    refine ⟨false, e, l, j, k, rfl, rfl, by omega, hF, hDl.mono hM1, ?_⟩
                    repeat ((conv => whnf); (first | refine Cnd.yes ?_ | refine Cnd.no ?_ | refine And.intro rfl ?_ | refine And.intro (by omega) ?_ | (refine And.intro ?_ ?_; focus (simp only [IntKind.wrap_i64, IntKind.wrap_u64, IntKind.wrap_u32]; omega)) | (refine And.intro ?_ ?_; focus (simp only [zl1, zl2, zl3, zl4, zl5, zl6, zl7, zl8, zl9] <;> omega)) | refine Alt.std ?_ | (refine Cnd.tt ?_ ?_; focus (first | (apply decide_eq_true; omega) | (simp only [zq1, zq2, zq3, zq4, zq5, zq6, zq7, zq8, zq9, zq10, zq11, zq12] <;> omega) | rfl)) | (refine Cnd.ff ?_ ?_; focus (first | (apply decide_eq_false; omega) | (simp only [zq1, zq2, zq3, zq4, zq5, zq6, zq7, zq8, zq9, zq10, zq11, zq12] <;> omega) | rfl))))
                    conv => whnf
                    refine Cnd.mk (fun hp => ?_) fun hp => ?_
                    · have hw := why_more hG'.more j k hjk hkl (of_decide_eq_true hp)
                      repeat ((conv => whnf); (first | refine Cnd.yes ?_ | refine Cnd.no ?_ | refine And.intro rfl ?_ | refine And.intro (by omega) ?_ | (refine And.intro ?_ ?_; focus (simp only [IntKind.wrap_i64, IntKind.wrap_u64, IntKind.wrap_u32]; omega)) | (refine And.intro ?_ ?_; focus (simp only [zl1, zl2, zl3, zl4, zl5, zl6, zl7, zl8, zl9] <;> omega)) | refine Alt.std ?_ | (refine Cnd.tt ?_ ?_; focus (first | (apply decide_eq_true; omega) | (simp only [zq1, zq2, zq3, zq4, zq5, zq6, zq7, zq8, zq9, zq10, zq11, zq12] <;> omega) | rfl)) | (refine Cnd.ff ?_ ?_; focus (first | (apply decide_eq_false; omega) | (simp only [zq1, zq2, zq3, zq4, zq5, zq6, zq7, zq8, zq9, zq10, zq11, zq12] <;> omega) | rfl))))
                      conv => whnf
                      refine ⟨true, 30, m', j, k, by rw [hG'.len], rfl, by rw [hG'.len]; omega, hG'.fit, hG'.deps, ?_⟩
                      repeat ((conv => whnf); (first | refine Cnd.yes ?_ | refine Cnd.no ?_ | refine And.intro rfl ?_ | refine And.intro (by omega) ?_ | (refine And.intro ?_ ?_; focus (simp only [IntKind.wrap_i64, IntKind.wrap_u64, IntKind.wrap_u32]; omega)) | (refine And.intro ?_ ?_; focus (simp only [zl1, zl2, zl3, zl4, zl5, zl6, zl7, zl8, zl9] <;> omega)) | refine Alt.std ?_ | (refine Cnd.tt ?_ ?_; focus (first | (apply decide_eq_true; omega) | (simp only [zq1, zq2, zq3, zq4, zq5, zq6, zq7, zq8, zq9, zq10, zq11, zq12] <;> omega) | rfl)) | (refine Cnd.ff ?_ ?_; focus (first | (apply decide_eq_false; omega) | (simp only [zq1, zq2, zq3, zq4, zq5, zq6, zq7, zq8, zq9, zq10, zq11, zq12] <;> omega) | rfl))))
                      conv => whnf
                      (refine ⟨(fun s : Nat => l.length - s) (k + 1), [0, 1], tmk 126 0 ((fun s : Nat => [(0, .slc 0 13 0 l.length), (8, .slc 1 13 0 l.length), (9, .v (.int .i64 j)), (10, .v (.int .i64 s))]) (k + 1)), (fun s : Nat => [Ent.row false e ock (l.map orow), .row true 30 ock (m'.map orow)]) (k + 1), ?_, ?_⟩; focus (first | (simp only []; omega) | omega))
                      repeat ((conv => whnf); (first | refine Cnd.yes ?_ | refine Cnd.no ?_ | refine And.intro rfl ?_ | refine And.intro (by omega) ?_ | (refine And.intro ?_ ?_; focus (simp only [IntKind.wrap_i64, IntKind.wrap_u64, IntKind.wrap_u32]; omega)) | (refine And.intro ?_ ?_; focus (simp only [zl1, zl2, zl3, zl4, zl5, zl6, zl7, zl8, zl9] <;> omega)) | refine Alt.std ?_))
                      conv => whnf
                      exact ⟨k + 1, ⟨by omega, hkl⟩, rfl, rfl, (tmkK_eq _ _ _ _).mpr rfl, rfl⟩
                    · repeat ((conv => whnf); (first | refine Cnd.yes ?_ | refine Cnd.no ?_ | refine And.intro rfl ?_ | refine And.intro (by omega) ?_ | (refine And.intro ?_ ?_; focus (simp only [IntKind.wrap_i64, IntKind.wrap_u64, IntKind.wrap_u32]; omega)) | (refine And.intro ?_ ?_; focus (simp only [zl1, zl2, zl3, zl4, zl5, zl6, zl7, zl8, zl9] <;> omega)) | refine Alt.std ?_ | (refine Cnd.tt ?_ ?_; focus (first | (apply decide_eq_true; omega) | (simp only [zq1, zq2, zq3, zq4, zq5, zq6, zq7, zq8, zq9, zq10, zq11, zq12] <;> omega) | rfl)) | (refine Cnd.ff ?_ ?_; focus (first | (apply decide_eq_false; omega) | (simp only [zq1, zq2, zq3, zq4, zq5, zq6, zq7, zq8, zq9, zq10, zq11, zq12] <;> omega) | rfl))))
                      conv => whnf
                      (refine ⟨(fun s : Nat => l.length - s) (k + 1), [0, 1], tmk 126 0 ((fun s : Nat => [(0, .slc 0 13 0 l.length), (8, .slc 1 13 0 l.length), (9, .v (.int .i64 j)), (10, .v (.int .i64 s))]) (k + 1)), (fun s : Nat => [Ent.row false e ock (l.map orow), .row true 30 ock (m'.map orow)]) (k + 1), ?_, ?_⟩; focus (first | (simp only []; omega) | omega))
                      repeat ((conv => whnf); (first | refine Cnd.yes ?_ | refine Cnd.no ?_ | refine And.intro rfl ?_ | refine And.intro (by omega) ?_ | (refine And.intro ?_ ?_; focus (simp only [IntKind.wrap_i64, IntKind.wrap_u64, IntKind.wrap_u32]; omega)) | (refine And.intro ?_ ?_; focus (simp only [zl1, zl2, zl3, zl4, zl5, zl6, zl7, zl8, zl9] <;> omega)) | refine Alt.std ?_))
                      conv => whnf
                      exact ⟨k + 1, ⟨by omega, hkl⟩, rfl, rfl, (tmkK_eq _ _ _ _).mpr rfl, rfl⟩
                  · repeat ((conv => whnf); (first | refine Cnd.yes ?_ | refine Cnd.no ?_ | refine And.intro rfl ?_ | refine And.intro (by omega) ?_ | (refine And.intro ?_ ?_; focus (simp only [IntKind.wrap_i64, IntKind.wrap_u64, IntKind.wrap_u32]; omega)) | (refine And.intro ?_ ?_; focus (simp only [zl1, zl2, zl3, zl4, zl5, zl6, zl7, zl8, zl9] <;> omega)) | refine Alt.std ?_ | (refine Cnd.tt ?_ ?_; focus (first | (apply decide_eq_true; omega) | (simp only [zq1, zq2, zq3, zq4, zq5, zq6, zq7, zq8, zq9, zq10, zq11, zq12] <;> omega) | rfl)) | (refine Cnd.ff ?_ ?_; focus (first | (apply decide_eq_false; omega) | (simp only [zq1, zq2, zq3, zq4, zq5, zq6, zq7, zq8, zq9, zq10, zq11, zq12] <;> omega) | rfl))))
                    conv => whnf
                    (refine ⟨(fun s : Nat => l.length - s) (j + 1), [0, 1], tmk 126 0 ((fun s : Nat => [(0, .slc 0 13 0 l.length), (8, .slc 1 13 0 l.length), (9, .v (.int .i64 s))]) (j + 1)), (fun s : Nat => [Ent.row false e ock (l.map orow), .row true 30 ock (m'.map orow)]) (j + 1), ?_, ?_⟩; focus (first | (simp only []; omega) | omega))
                    repeat ((conv => whnf); (first | refine Cnd.yes ?_ | refine Cnd.no ?_ | refine And.intro rfl ?_ | refine And.intro (by omega) ?_ | (refine And.intro ?_ ?_; focus (simp only [IntKind.wrap_i64, IntKind.wrap_u64, IntKind.wrap_u32]; omega)) | (refine And.intro ?_ ?_; focus (simp only [zl1, zl2, zl3, zl4, zl5, zl6, zl7, zl8, zl9] <;> omega)) | refine Alt.std ?_))
                    conv => whnf
                    exact ⟨j + 1, hjl, rfl, rfl, (tmkK_eq _ _ _ _).mpr rfl, rfl⟩
              · repeat ((conv => whnf); (first | refine Cnd.yes ?_ | refine Cnd.no ?_ | refine And.intro rfl ?_ | refine And.intro (by omega) ?_ | (refine And.intro ?_ ?_; focus (simp only [IntKind.wrap_i64, IntKind.wrap_u64, IntKind.wrap_u32]; omega)) | (refine And.intro ?_ ?_; focus (simp only [zl1, zl2, zl3, zl4, zl5, zl6, zl7, zl8, zl9] <;> omega)) | refine Alt.std ?_ | (refine Cnd.tt ?_ ?_; focus (first | (apply decide_eq_true; omega) | (simp only [zq1, zq2, zq3, zq4, zq5, zq6, zq7, zq8, zq9, zq10, zq11, zq12] <;> omega) | rfl)) | (refine Cnd.ff ?_ ?_; focus (first | (apply decide_eq_false; omega) | (simp only [zq1, zq2, zq3, zq4, zq5, zq6, zq7, zq8, zq9, zq10, zq11, zq12] <;> omega) | rfl))))
                conv => whnf
                exact hK _ _ hM1
          · repeat ((conv => whnf); (first | refine Cnd.yes ?_ | refine Cnd.no ?_ | refine And.intro rfl ?_ | refine And.intro (by omega) ?_ | (refine And.intro ?_ ?_; focus (simp only [IntKind.wrap_i64, IntKind.wrap_u64, IntKind.wrap_u32]; omega)) | (refine And.intro ?_ ?_; focus (simp only [zl1, zl2, zl3, zl4, zl5, zl6, zl7, zl8, zl9] <;> omega)) | refine Alt.std ?_ | (refine Cnd.tt ?_ ?_; focus (first | (apply decide_eq_true; omega) | (simp only [zq1, zq2, zq3, zq4, zq5, zq6, zq7, zq8, zq9, zq10, zq11, zq12] <;> omega) | rfl)) | (refine Cnd.ff ?_ ?_; focus (first | (apply decide_eq_false; omega) | (simp only [zq1, zq2, zq3, zq4, zq5, zq6, zq7, zq8, zq9, zq10, zq11, zq12] <;> omega) | rfl))))
            conv => whnf
            rw [e0]
            repeat ((conv => whnf); (first | refine Cnd.yes ?_ | refine Cnd.no ?_ | refine And.intro rfl ?_ | refine And.intro (by omega) ?_ | (refine And.intro ?_ ?_; focus (simp only [IntKind.wrap_i64, IntKind.wrap_u64, IntKind.wrap_u32]; omega)) | (refine And.intro ?_ ?_; focus (simp only [zl1, zl2, zl3, zl4, zl5, zl6, zl7, zl8, zl9] <;> omega)) | refine Alt.std ?_ | (refine Cnd.tt ?_ ?_; focus (first | (apply decide_eq_true; omega) | (simp only [zq1, zq2, zq3, zq4, zq5, zq6, zq7, zq8, zq9, zq10, zq11, zq12] <;> omega) | rfl)) | (refine Cnd.ff ?_ ?_; focus (first | (apply decide_eq_false; omega) | (simp only [zq1, zq2, zq3, zq4, zq5, zq6, zq7, zq8, zq9, zq10, zq11, zq12] <;> omega) | rfl))))
            conv => whnf
            refine ⟨InvS 126 (fun s : Nat => l.length - s) (fun s : Nat => s ≤ l.length) (fun s : Nat => [(0, .slc 0 13 0 l.length), (8, .slc 1 13 0 l.length), (9, .v (.int .i64 s))]) (fun s : Nat => [Ent.row false e ock (l.map orow), .row true 30 ock (m.map orow)]) M1, ⟨(fun s : Nat => l.length - s) 0, [0, 1], tmk 126 0 ((fun s : Nat => [(0, .slc 0 13 0 l.length), (8, .slc 1 13 0 l.length), (9, .v (.int .i64 s))]) 0), (fun s : Nat => [Ent.row false e ock (l.map orow), .row true 30 ock (m.map orow)]) 0, ?_⟩, ?_⟩
            · repeat ((conv => whnf); (first | refine Cnd.yes ?_ | refine Cnd.no ?_ | refine And.intro rfl ?_ | refine And.intro (by omega) ?_ | (refine And.intro ?_ ?_; focus (simp only [IntKind.wrap_i64, IntKind.wrap_u64, IntKind.wrap_u32]; omega)) | (refine And.intro ?_ ?_; focus (simp only [zl1, zl2, zl3, zl4, zl5, zl6, zl7, zl8, zl9] <;> omega)) | refine Alt.std ?_))
              conv => whnf
              try refine ⟨hs, ?_⟩
              repeat ((conv => whnf); (first | refine Cnd.yes ?_ | refine Cnd.no ?_ | refine And.intro rfl ?_ | refine And.intro (by omega) ?_ | (refine And.intro ?_ ?_; focus (simp only [IntKind.wrap_i64, IntKind.wrap_u64, IntKind.wrap_u32]; omega)) | (refine And.intro ?_ ?_; focus (simp only [zl1, zl2, zl3, zl4, zl5, zl6, zl7, zl8, zl9] <;> omega)) | refine Alt.std ?_))
              conv => whnf
              exact ⟨0, Nat.zero_le _, rfl, rfl, (tmkK_eq _ _ _ _).mpr rfl, rfl⟩
            · rintro cnt tm hp M1 ⟨j, hC_, rfl, rfl, htm, hhp_⟩
              replace hC_ : j ≤ l.length := hC_
              have hj := hC_
              replace htm : tmkK 126 0 [(0, .slc 0 13 0 l.length), (8, .slc 1 13 0 l.length), (9, .v (.int .i64 j))] (fun l => tm = l) := htm
              conv at htm => whnf
              subst htm
              replace hhp_ : hp = [Ent.row false e ock (l.map orow), .row true 30 ock (m.map orow)] := hhp_
              subst hhp_
              repeat ((conv => whnf); (first | refine Cnd.yes ?_ | refine Cnd.no ?_ | refine And.intro rfl ?_ | refine And.intro (by omega) ?_ | (refine And.intro ?_ ?_; focus (simp only [IntKind.wrap_i64, IntKind.wrap_u64, IntKind.wrap_u32]; omega)) | (refine And.intro ?_ ?_; focus (simp only [zl1, zl2, zl3, zl4, zl5, zl6, zl7, zl8, zl9] <;> omega)) | refine Alt.std ?_ | (refine Cnd.tt ?_ ?_; focus (first | (apply decide_eq_true; omega) | (simp only [zq1, zq2, zq3, zq4, zq5, zq6, zq7, zq8, zq9, zq10, zq11, zq12] <;> omega) | rfl)) | (refine Cnd.ff ?_ ?_; focus (first | (apply decide_eq_false; omega) | (simp only [zq1, zq2, zq3, zq4, zq5, zq6, zq7, zq8, zq9, zq10, zq11, zq12] <;> omega) | rfl))))
              conv => whnf
              refine Cnd.mk (fun hlt => ?_) fun hge => ?_
              · have hjl : j < l.length := by have := of_decide_eq_true hlt; omega
                repeat ((conv => whnf); (first | refine Cnd.yes ?_ | refine Cnd.no ?_ | refine And.intro rfl ?_ | refine And.intro (by omega) ?_ | (refine And.intro ?_ ?_; focus (simp only [IntKind.wrap_i64, IntKind.wrap_u64, IntKind.wrap_u32]; omega)) | (refine And.intro ?_ ?_; focus (simp only [zl1, zl2, zl3, zl4, zl5, zl6, zl7, zl8, zl9] <;> omega)) | refine Alt.std ?_ | (refine Cnd.tt ?_ ?_; focus (first | (apply decide_eq_true; omega) | (simp only [zq1, zq2, zq3, zq4, zq5, zq6, zq7, zq8, zq9, zq10, zq11, zq12] <;> omega) | rfl)) | (refine Cnd.ff ?_ ?_; focus (first | (apply decide_eq_false; omega) | (simp only [zq1, zq2, zq3, zq4, zq5, zq6, zq7, zq8, zq9, zq10, zq11, zq12] <;> omega) | rfl))))
                conv => whnf
                refine ⟨InvS 126 (fun s : Nat => l.length - s) (fun s : Nat => j < s ∧ s ≤ l.length) (fun s : Nat => [(0, .slc 0 13 0 l.length), (8, .slc 1 13 0 l.length), (9, .v (.int .i64 j)), (10, .v (.int .i64 s))]) (fun s : Nat => [Ent.row false e ock (l.map orow), .row true 30 ock (m.map orow)]) M1, ⟨(fun s : Nat => l.length - s) (j + 1), [0, 1], tmk 126 0 ((fun s : Nat => [(0, .slc 0 13 0 l.length), (8, .slc 1 13 0 l.length), (9, .v (.int .i64 j)), (10, .v (.int .i64 s))]) (j + 1)), (fun s : Nat => [Ent.row false e ock (l.map orow), .row true 30 ock (m.map orow)]) (j + 1), ?_⟩, ?_⟩
                · repeat ((conv => whnf); (first | refine Cnd.yes ?_ | refine Cnd.no ?_ | refine And.intro rfl ?_ | refine And.intro (by omega) ?_ | (refine And.intro ?_ ?_; focus (simp only [IntKind.wrap_i64, IntKind.wrap_u64, IntKind.wrap_u32]; omega)) | (refine And.intro ?_ ?_; focus (simp only [zl1, zl2, zl3, zl4, zl5, zl6, zl7, zl8, zl9] <;> omega)) | refine Alt.std ?_))
                  conv => whnf
                  exact ⟨j + 1, ⟨Nat.lt_succ_self j, hjl⟩, rfl, rfl, (tmkK_eq _ _ _ _).mpr rfl, rfl⟩
                · rintro cnt tm hp M1 ⟨k, hC_, rfl, rfl, htm, hhp_⟩
                  replace hC_ : j < k ∧ k ≤ l.length := hC_
                  obtain ⟨hjk, hk⟩ := hC_
                  replace htm : tmkK 126 0 [(0, .slc 0 13 0 l.length), (8, .slc 1 13 0 l.length), (9, .v (.int .i64 j)), (10, .v (.int .i64 k))] (fun l => tm = l) := htm
                  conv at htm => whnf
                  subst htm
                  replace hhp_ : hp = [Ent.row false e ock (l.map orow), .row true 30 ock (m.map orow)] := hhp_
                  subst hhp_
                  repeat ((conv => whnf); (first | refine Cnd.yes ?_ | refine Cnd.no ?_ | refine And.intro rfl ?_ | refine And.intro (by omega) ?_ | (refine And.intro ?_ ?_; focus (simp only [IntKind.wrap_i64, IntKind.wrap_u64, IntKind.wrap_u32]; omega)) | (refine And.intro ?_ ?_; focus (simp only [zl1, zl2, zl3, zl4, zl5, zl6, zl7, zl8, zl9] <;> omega)) | refine Alt.std ?_ | (refine Cnd.tt ?_ ?_; focus (first | (apply decide_eq_true; omega) | (simp only [zq1, zq2, zq3, zq4, zq5, zq6, zq7, zq8, zq9, zq10, zq11, zq12] <;> omega) | rfl)) | (refine Cnd.ff ?_ ?_; focus (first | (apply decide_eq_false; omega) | (simp only [zq1, zq2, zq3, zq4, zq5, zq6, zq7, zq8, zq9, zq10, zq11, zq12] <;> omega) | rfl))))
                  conv => whnf
                  refine Cnd.mk (fun hlt2 => ?_) fun hge2 => ?_
                  · have hkl : k < l.length := by have := of_decide_eq_true hlt2; omega
                    repeat ((conv => whnf); (first | refine Cnd.yes ?_ | refine Cnd.no ?_ | refine And.intro rfl ?_ | refine And.intro (by omega) ?_ | (refine And.intro ?_ ?_; focus (simp only [IntKind.wrap_i64, IntKind.wrap_u64, IntKind.wrap_u32]; omega)) | (refine And.intro ?_ ?_; focus (simp only [zl1, zl2, zl3, zl4, zl5, zl6, zl7, zl8, zl9] <;> omega)) | refine Alt.std ?_ | (refine Cnd.tt ?_ ?_; focus (first | (apply decide_eq_true; omega) | (simp only [zq1, zq2, zq3, zq4, zq5, zq6, zq7, zq8, zq9, zq10, zq11, zq12] <;> omega) | rfl)) | (refine Cnd.ff ?_ ?_; focus (first | (apply decide_eq_false; omega) | (simp only [zq1, zq2, zq3, zq4, zq5, zq6, zq7, zq8, zq9, zq10, zq11, zq12] <;> omega) | rfl))))
                    conv => whnf
                    refine ⟨false, e, l, j, k, rfl, rfl, by omega, hF, hDl.mono hM1, ?_⟩
                    repeat ((conv => whnf); (first | refine Cnd.yes ?_ | refine Cnd.no ?_ | refine And.intro rfl ?_ | refine And.intro (by omega) ?_ | (refine And.intro ?_ ?_; focus (simp only [IntKind.wrap_i64, IntKind.wrap_u64, IntKind.wrap_u32]; omega)) | (refine And.intro ?_ ?_; focus (simp only [zl1, zl2, zl3, zl4, zl5, zl6, zl7, zl8, zl9] <;> omega)) | refine Alt.std ?_ | (refine Cnd.tt ?_ ?_; focus (first | (apply decide_eq_true; omega) | (simp only [zq1, zq2, zq3, zq4, zq5, zq6, zq7, zq8, zq9, zq10, zq11, zq12] <;> omega) | rfl)) | (refine Cnd.ff ?_ ?_; focus (first | (apply decide_eq_false; omega) | (simp only [zq1, zq2, zq3, zq4, zq5, zq6, zq7, zq8, zq9, zq10, zq11, zq12] <;> omega) | rfl))))
                    conv => whnf
                    refine Cnd.mk (fun hp => ?_) fun hp => ?_
                    · have hw := why_more hG.more j k hjk hkl (of_decide_eq_true hp)
                      repeat ((conv => whnf); (first | refine Cnd.yes ?_ | refine Cnd.no ?_ | refine And.intro rfl ?_ | refine And.intro (by omega) ?_ | (refine And.intro ?_ ?_; focus (simp only [IntKind.wrap_i64, IntKind.wrap_u64, IntKind.wrap_u32]; omega)) | (refine And.intro ?_ ?_; focus (simp only [zl1, zl2, zl3, zl4, zl5, zl6, zl7, zl8, zl9] <;> omega)) | refine Alt.std ?_ | (refine Cnd.tt ?_ ?_; focus (first | (apply decide_eq_true; omega) | (simp only [zq1, zq2, zq3, zq4, zq5, zq6, zq7, zq8, zq9, zq10, zq11, zq12] <;> omega) | rfl)) | (refine Cnd.ff ?_ ?_; focus (first | (apply decide_eq_false; omega) | (simp only [zq1, zq2, zq3, zq4, zq5, zq6, zq7, zq8, zq9, zq10, zq11, zq12] <;> omega) | rfl))))
                      conv => whnf
                      refine ⟨true, 30, m, j, k, by rw [hG.len], rfl, by rw [hG.len]; omega, hG.fit, hG.deps, ?_⟩
                      repeat ((conv => whnf); (first | refine Cnd.yes ?_ | refine Cnd.no ?_ | refine And.intro rfl ?_ | refine And.intro (by omega) ?_ | (refine And.intro ?_ ?_; focus (simp only [IntKind.wrap_i64, IntKind.wrap_u64, IntKind.wrap_u32]; omega)) | (refine And.intro ?_ ?_; focus (simp only [zl1, zl2, zl3, zl4, zl5, zl6, zl7, zl8, zl9] <;> omega)) | refine Alt.std ?_ | (refine Cnd.tt ?_ ?_; focus (first | (apply decide_eq_true; omega) | (simp only [zq1, zq2, zq3, zq4, zq5, zq6, zq7, zq8, zq9, zq10, zq11, zq12] <;> omega) | rfl)) | (refine Cnd.ff ?_ ?_; focus (first | (apply decide_eq_false; omega) | (simp only [zq1, zq2, zq3, zq4, zq5, zq6, zq7, zq8, zq9, zq10, zq11, zq12] <;> omega) | rfl))))
                      conv => whnf
                      (refine ⟨(fun s : Nat => l.length - s) (k + 1), [0, 1], tmk 126 0 ((fun s : Nat => [(0, .slc 0 13 0 l.length), (8, .slc 1 13 0 l.length), (9, .v (.int .i64 j)), (10, .v (.int .i64 s))]) (k + 1)), (fun s : Nat => [Ent.row false e ock (l.map orow), .row true 30 ock (m.map orow)]) (k + 1), ?_, ?_⟩; focus (first | (simp only []; omega) | omega))
                      repeat ((conv => whnf); (first | refine Cnd.yes ?_ | refine Cnd.no ?_ | refine And.intro rfl ?_ | refine And.intro (by omega) ?_ | (refine And.intro ?_ ?_; focus (simp only [IntKind.wrap_i64, IntKind.wrap_u64, IntKind.wrap_u32]; omega)) | (refine And.intro ?_ ?_; focus (simp only [zl1, zl2, zl3, zl4, zl5, zl6, zl7, zl8, zl9] <;> omega)) | refine Alt.std ?_))
                      conv => whnf
                      exact ⟨k + 1, ⟨by omega, hkl⟩, rfl, rfl, (tmkK_eq _ _ _ _).mpr rfl, rfl⟩
                    · repeat ((conv => whnf); (first | refine Cnd.yes ?_ | refine Cnd.no ?_ | refine And.intro rfl ?_ | refine And.intro (by omega) ?_ | (refine And.intro ?_ ?_; focus (simp only [IntKind.wrap_i64, IntKind.wrap_u64, IntKind.wrap_u32]; omega)) | (refine And.intro ?_ ?_; focus (simp only [zl1, zl2, zl3, zl4, zl5, zl6, zl7, zl8, zl9] <;> omega)) | refine Alt.std ?_ | (refine Cnd.tt ?_ ?_; focus (first | (apply decide_eq_true; omega) | (simp only [zq1, zq2, zq3, zq4, zq5, zq6, zq7, zq8, zq9, zq10, zq11, zq12] <;> omega) | rfl)) | (refine Cnd.ff ?_ ?_; focus (first | (apply decide_eq_false; omega) | (simp only [zq1, zq2, zq3, zq4, zq5, zq6, zq7, zq8, zq9, zq10, zq11, zq12] <;> omega) | rfl))))
                      conv => whnf
                      (refine ⟨(fun s : Nat => l.length - s) (k + 1), [0, 1], tmk 126 0 ((fun s : Nat => [(0, .slc 0 13 0 l.length), (8, .slc 1 13 0 l.length), (9, .v (.int .i64 j)), (10, .v (.int .i64 s))]) (k + 1)), (fun s : Nat => [Ent.row false e ock (l.map orow), .row true 30 ock (m.map orow)]) (k + 1), ?_, ?_⟩; focus (first | (simp only []; omega) | omega))
                      repeat ((conv => whnf); (first | refine Cnd.yes ?_ | refine Cnd.no ?_ | refine And.intro rfl ?_ | refine And.intro (by omega) ?_ | (refine And.intro ?_ ?_; focus (simp only [IntKind.wrap_i64, IntKind.wrap_u64, IntKind.wrap_u32]; omega)) | (refine And.intro ?_ ?_; focus (simp only [zl1, zl2, zl3, zl4, zl5, zl6, zl7, zl8, zl9] <;> omega)) | refine Alt.std ?_))
                      conv => whnf
                      exact ⟨k + 1, ⟨by omega, hkl⟩, rfl, rfl, (tmkK_eq _ _ _ _).mpr rfl, rfl⟩
                  · repeat ((conv => whnf); (first | refine Cnd.yes ?_ | refine Cnd.no ?_ | refine And.intro rfl ?_ | refine And.intro (by omega) ?_ | (refine And.intro ?_ ?_; focus (simp only [IntKind.wrap_i64, IntKind.wrap_u64, IntKind.wrap_u32]; omega)) | (refine And.intro ?_ ?_; focus (simp only [zl1, zl2, zl3, zl4, zl5, zl6, zl7, zl8, zl9] <;> omega)) | refine Alt.std ?_ | (refine Cnd.tt ?_ ?_; focus (first | (apply decide_eq_true; omega) | (simp only [zq1, zq2, zq3, zq4, zq5, zq6, zq7, zq8, zq9, zq10, zq11, zq12] <;> omega) | rfl)) | (refine Cnd.ff ?_ ?_; focus (first | (apply decide_eq_false; omega) | (simp only [zq1, zq2, zq3, zq4, zq5, zq6, zq7, zq8, zq9, zq10, zq11, zq12] <;> omega) | rfl))))
                    conv => whnf
                    (refine ⟨(fun s : Nat => l.length - s) (j + 1), [0, 1], tmk 126 0 ((fun s : Nat => [(0, .slc 0 13 0 l.length), (8, .slc 1 13 0 l.length), (9, .v (.int .i64 s))]) (j + 1)), (fun s : Nat => [Ent.row false e ock (l.map orow), .row true 30 ock (m.map orow)]) (j + 1), ?_, ?_⟩; focus (first | (simp only []; omega) | omega))
                    repeat ((conv => whnf); (first | refine Cnd.yes ?_ | refine Cnd.no ?_ | refine And.intro rfl ?_ | refine And.intro (by omega) ?_ | (refine And.intro ?_ ?_; focus (simp only [IntKind.wrap_i64, IntKind.wrap_u64, IntKind.wrap_u32]; omega)) | (refine And.intro ?_ ?_; focus (simp only [zl1, zl2, zl3, zl4, zl5, zl6, zl7, zl8, zl9] <;> omega)) | refine Alt.std ?_))
                    conv => whnf
                    exact ⟨j + 1, hjl, rfl, rfl, (tmkK_eq _ _ _ _).mpr rfl, rfl⟩
              · repeat ((conv => whnf); (first | refine Cnd.yes ?_ | refine Cnd.no ?_ | refine And.intro rfl ?_ | refine And.intro (by omega) ?_ | (refine And.intro ?_ ?_; focus (simp only [IntKind.wrap_i64, IntKind.wrap_u64, IntKind.wrap_u32]; omega)) | (refine And.intro ?_ ?_; focus (simp only [zl1, zl2, zl3, zl4, zl5, zl6, zl7, zl8, zl9] <;> omega)) | refine Alt.std ?_ | (refine Cnd.tt ?_ ?_; focus (first | (apply decide_eq_true; omega) | (simp only [zq1, zq2, zq3, zq4, zq5, zq6, zq7, zq8, zq9, zq10, zq11, zq12] <;> omega) | rfl)) | (refine Cnd.ff ?_ ?_; focus (first | (apply decide_eq_false; omega) | (simp only [zq1, zq2, zq3, zq4, zq5, zq6, zq7, zq8, zq9, zq10, zq11, zq12] <;> omega) | rfl))))
                conv => whnf
                exact hK _ _ hM1
end Go.Proofs.Ytkfkoldaeplckaa
