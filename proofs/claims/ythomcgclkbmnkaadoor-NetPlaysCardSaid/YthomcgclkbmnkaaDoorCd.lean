/-
  The chapter's examples; NetWhole, walked.
-/
import Derived.Test.YthomcgclkbmnkaaDoorCc
namespace Go.Proofs.YthomcgclkbmnkaaDoor
open Go Go.Vc
set_option maxRecDepth 100000
set_option linter.unusedSimpArgs false
set_option linter.unusedVariables false
set_option maxHeartbeats 4000000
noncomputable def specs3 : Nat → Option Vc.Trans := tget [(8, frameT newS), (9, frameT sendS), (10, frameT sameES), (12, frameT lenS), (13, frameT allS), (14, frameT classS), (15, frameT roomS)]
noncomputable def G3 : Nat → Option Vc.Trans := tabG specs3 (tget tab) 5
theorem G3_ok : GOK Tryd.prog G3 := tabG_ok (GOK.cons (frame_ok new_ok) (GOK.cons (frame_ok send_ok) (GOK.cons (frame_ok sameE_ok) (GOK.cons (frame_ok len_ok) (GOK.cons (frame_ok all_ok) (GOK.cons (frame_ok class_ok) (GOK.cons (frame_ok room_ok) .nil))))))) tab_ok 5
def m0 : Msg := ⟨1, 0, 0, -1, 0, 0, 0, 0, false, false, false⟩
theorem first_run (M : HL) (K : SV → List Ent → HL → Prop) (ad : Nat → Addr) (hS : Sents M ad) (hK : K (.v (.bool true)) [] M) :
    runF G3 pf7 [] [] M fun v hp2 M2 => ∃ m v' hp', Wk (llen ([] : List Ent)) m [v] hp2 [v'] hp' (K v' hp' M2) := by
  repeat ((conv => whnf); (first | refine Cnd.yes ?_ | refine Cnd.no ?_ | refine And.intro rfl ?_ | refine And.intro (by omega) ?_ | (refine And.intro ?_ ?_; focus (simp only [IntKind.wrap_i64, IntKind.wrap_u64, IntKind.wrap_u32]; omega)) | (refine And.intro ?_ ?_; focus (simp only [zl1, zl2, zl3, zl4, zl5, zl6, zl7, zl8, zl9] <;> omega)) | refine Alt.std ?_))
  conv => whnf
  refine ⟨2, 1, rfl, rfl, by omega, by omega, ?_⟩
  repeat ((conv => whnf); (first | refine Cnd.yes ?_ | refine Cnd.no ?_ | refine And.intro rfl ?_ | refine And.intro (by omega) ?_ | (refine And.intro ?_ ?_; focus (simp only [IntKind.wrap_i64, IntKind.wrap_u64, IntKind.wrap_u32]; omega)) | (refine And.intro ?_ ?_; focus (simp only [zl1, zl2, zl3, zl4, zl5, zl6, zl7, zl8, zl9] <;> omega)) | refine Alt.std ?_))
  conv => whnf
  refine ⟨ad, 2, 1, 0, [], true, 33, [m0], hS, rfl, rfl, by decide, by decide, by decide, ?_⟩
  rw [show sendL 2 1 0 [] 0 [m0] = .inr [(0, m0)] from rfl]
  repeat ((conv => whnf); (first | refine Cnd.yes ?_ | refine Cnd.no ?_ | refine And.intro rfl ?_ | refine And.intro (by omega) ?_ | (refine And.intro ?_ ?_; focus (simp only [IntKind.wrap_i64, IntKind.wrap_u64, IntKind.wrap_u32]; omega)) | (refine And.intro ?_ ?_; focus (simp only [zl1, zl2, zl3, zl4, zl5, zl6, zl7, zl8, zl9] <;> omega)) | refine Alt.std ?_))
  conv => whnf
  refine ⟨ad, 2, 1, _, [(0, m0)], true, 33, [m0], hS, rfl, rfl, by decide, by decide, by decide, ?_⟩
  rw [show sendL 2 1 (0 + (([m0].length : Nat) : Int)) [(0, m0)] 0 [m0] = .inl (0, 6) from rfl]
  repeat ((conv => whnf); (first | refine Cnd.yes ?_ | refine Cnd.no ?_ | refine And.intro rfl ?_ | refine And.intro (by omega) ?_ | (refine And.intro ?_ ?_; focus (simp only [IntKind.wrap_i64, IntKind.wrap_u64, IntKind.wrap_u32]; omega)) | (refine And.intro ?_ ?_; focus (simp only [zl1, zl2, zl3, zl4, zl5, zl6, zl7, zl8, zl9] <;> omega)) | refine Alt.std ?_))
  conv => whnf
  refine .inl ⟨ad, 6, 0, 107, 0, true, hS, by omega, rfl, rfl, ?_⟩
  repeat ((conv => whnf); (first | refine Cnd.yes ?_ | refine Cnd.no ?_ | refine And.intro rfl ?_ | refine And.intro (by omega) ?_ | (refine And.intro ?_ ?_; focus (simp only [IntKind.wrap_i64, IntKind.wrap_u64, IntKind.wrap_u32]; omega)) | (refine And.intro ?_ ?_; focus (simp only [zl1, zl2, zl3, zl4, zl5, zl6, zl7, zl8, zl9] <;> omega)) | refine Alt.std ?_))
  conv => whnf
  refine ⟨true, 2, 1, _, [(0, m0)], rfl, rfl, ?_⟩
  repeat ((conv => whnf); (first | refine Cnd.yes ?_ | refine Cnd.no ?_ | refine And.intro rfl ?_ | refine And.intro (by omega) ?_ | (refine And.intro ?_ ?_; focus (simp only [IntKind.wrap_i64, IntKind.wrap_u64, IntKind.wrap_u32]; omega)) | (refine And.intro ?_ ?_; focus (simp only [zl1, zl2, zl3, zl4, zl5, zl6, zl7, zl8, zl9] <;> omega)) | refine Alt.std ?_))
  conv => whnf
  refine ⟨[], .v (.bool true), [], ?_⟩
  repeat ((conv => whnf); (first | refine Cnd.yes ?_ | refine Cnd.no ?_ | refine And.intro rfl ?_ | refine And.intro (by omega) ?_ | (refine And.intro ?_ ?_; focus (simp only [IntKind.wrap_i64, IntKind.wrap_u64, IntKind.wrap_u32]; omega)) | (refine And.intro ?_ ?_; focus (simp only [zl1, zl2, zl3, zl4, zl5, zl6, zl7, zl8, zl9] <;> omega)) | refine Alt.std ?_))
  conv => whnf
  exact hK
def firstS : Vc.Spec := fun args hp M K => ∃ ad : Nat → Addr, Sents M ad ∧ args = [] ∧ hp = [] ∧ K (.v (.bool true)) []
theorem first_ok : SOK Tryd.prog 7 firstS := by
  refine TOK.weaken (TOK.out (runF_eq G3_ok mixed at7.1 at7.2 pf7_eq)) fun args hp M K h => ?_
  obtain ⟨ad, hS, rfl, rfl, h1⟩ := h
  exact first_run M K ad hS h1
noncomputable def specs4 : Nat → Option Vc.Trans := tget [(7, frameT firstS), (8, frameT newS), (9, frameT sendS), (10, frameT sameES), (12, frameT lenS), (13, frameT allS), (14, frameT classS), (15, frameT roomS)]
noncomputable def G4 : Nat → Option Vc.Trans := tabG specs4 (tget tab) 5
theorem G4_ok : GOK Tryd.prog G4 := tabG_ok (GOK.cons (frame_ok first_ok) (GOK.cons (frame_ok new_ok) (GOK.cons (frame_ok send_ok) (GOK.cons (frame_ok sameE_ok) (GOK.cons (frame_ok len_ok) (GOK.cons (frame_ok all_ok) (GOK.cons (frame_ok class_ok) (GOK.cons (frame_ok room_ok) .nil)))))))) tab_ok 5
theorem modn (x : Int) (b : Nat) (hb : 0 < b) (hb2 : b < 3000) : ∃ n : Nat, n < b ∧ (IntKind.i64.wrap (x.tmod b + b)).tmod b = n := by
  have h1 : -(b : Int) < Int.tmod x b := Int.lt_tmod_of_pos x (by omega)
  have h2 : Int.tmod x b < b := Int.tmod_lt_of_pos x (by omega)
  have e : IntKind.i64.wrap (Int.tmod x b + b) = Int.tmod x b + b := by rw [IntKind.wrap_i64]; omega
  rw [e, Int.tmod_eq_emod_of_nonneg (by omega)]
  have h3 := Int.emod_nonneg (Int.tmod x b + b) (show (b : Int) ≠ 0 by omega)
  have h4 := Int.emod_lt_of_pos (Int.tmod x b + b) (show (0 : Int) < b by omega)
  exact ⟨((Int.tmod x b + b) % b).toNat, by omega, by omega⟩
/-- The messages of NetWhole. -/
def wm (bad i : Nat) : Msg := ⟨1, if i = bad then -1 else i, (i % 2 : Nat), -1, 0, 0, 0, 0, false, false, false⟩
def wl (bad n : Nat) : List Msg := (List.range n).map (wm bad)
theorem wl_len (bad n : Nat) : (wl bad n).length = n := by simp [wl]
theorem wl_succ (bad n : Nat) : wl bad (n + 1) = wl bad n ++ [wm bad n] := by simp [wl, List.range_succ]
def wf (i : Nat) : Fl := ((i : Int), ⟨1, i, (i % 2 : Nat), -1, 0, 0, 0, 0, false, false, false⟩)
theorem wrow {bad i : Nat} : List.take i (List.drop 0 ((wl bad i).map mrow)) ++ List.take 1 (List.drop 0 [mrow (wm bad i)]) = (wl bad (i + 1)).map mrow := by
  rw [List.drop_zero, List.drop_zero, List.take_of_length_le (l := (wl bad i).map mrow) (by simp [wl_len]), wl_succ]
  simp
theorem whole_bad (all : List Fl) (bad i : Nat) (ha : all.length < 30) : badM 2 30 all (wm bad i) = if i = bad then some 2 else none := by
  have hu := usedN_le all ((i % 2 : Nat) : Int) (-1) 0
  have hc : classN 1 = 0 := rfl
  have hl : linkB 2 ((i % 2 : Nat) : Int) (-1) 0 = true := decide_eq_true (.inl ⟨.inl rfl, by omega, rfl⟩)
  unfold badM wm
  simp only [hc, hl]
  rw [if_neg (by decide)]
  by_cases h : i = bad
  · rw [if_pos h, if_pos h, if_pos (.inr (by decide))]
  · rw [if_neg h, if_neg h, if_neg (fun h => h.elim (fun h => by cases h) (fun h => by omega)), if_neg (by omega)]
theorem whole_send (bad : Nat) : ∀ (k i : Nat), i + k ≤ 20 → sendL 2 30 0 ((List.range i).map wf) i ((List.range' i k).map (wm bad)) = if i ≤ bad ∧ bad < i + k then .inl (bad, 2) else .inr ((List.range (i + k)).map wf)
  | 0, i, _ => by rw [if_neg (by omega)]; rfl
  | k + 1, i, h => by
    rw [List.range'_succ, List.map_cons]
    simp only [sendL]
    rw [whole_bad _ _ _ (by simp; omega)]
    by_cases hb : i = bad
    · rw [if_pos hb, if_pos (by omega), hb]
    · rw [if_neg hb]
      simp only []
      have e : (List.range i).map wf ++ [((0 : Int) + i, wm bad i)] = (List.range (i + 1)).map wf := by
        rw [List.range_succ, List.map_append]
        simp [wf, wm, hb]
      rw [e, whole_send bad k (i + 1) (by omega)]
      by_cases h2 : i ≤ bad ∧ bad < i + (k + 1)
      · rw [if_pos h2, if_pos (by omega)]
      · rw [if_neg h2, if_neg (by omega), show i + 1 + k = i + (k + 1) by omega]
set_option maxHeartbeats 4000000 in
theorem whole_run (M : HL) (K : SV → List Ent → HL → Prop) (ad : Nat → Addr) (hS : Sents M ad) (x y : Int) (hK : ∀ hp, K (.v (.bool true)) hp M) :
    runF G4 pf3 [.v (.int .i64 x), .v (.int .i64 y)] [] M K := by
  obtain ⟨n, hn, hx⟩ := modn x 20 (by omega) (by omega)
  obtain ⟨bad, hb, hy⟩ := modn y 20 (by omega) (by omega)
  repeat ((conv => whnf); (first | refine Cnd.yes ?_ | refine Cnd.no ?_ | refine And.intro rfl ?_ | refine And.intro (by omega) ?_ | (refine And.intro ?_ ?_; focus (simp only [IntKind.wrap_i64, IntKind.wrap_u64, IntKind.wrap_u32]; omega)) | (refine And.intro ?_ ?_; focus (simp only [zl1, zl2, zl3, zl4, zl5, zl6, zl7, zl8, zl9] <;> omega)) | refine Alt.std ?_))
  conv => whnf
  refine ⟨ad, hS, rfl, rfl, ?_⟩
  repeat ((conv => whnf); (first | refine Cnd.yes ?_ | refine Cnd.no ?_ | refine And.intro rfl ?_ | refine And.intro (by omega) ?_ | (refine And.intro ?_ ?_; focus (simp only [IntKind.wrap_i64, IntKind.wrap_u64, IntKind.wrap_u32]; omega)) | (refine And.intro ?_ ?_; focus (simp only [zl1, zl2, zl3, zl4, zl5, zl6, zl7, zl8, zl9] <;> omega)) | refine Alt.std ?_))
  conv => whnf
  rw [show (20 : Int) = ((20 : Nat) : Int) from rfl, hx, hy]
  repeat ((conv => whnf); (first | refine Cnd.yes ?_ | refine Cnd.no ?_ | refine And.intro rfl ?_ | refine And.intro (by omega) ?_ | (refine And.intro ?_ ?_; focus (simp only [IntKind.wrap_i64, IntKind.wrap_u64, IntKind.wrap_u32]; omega)) | (refine And.intro ?_ ?_; focus (simp only [zl1, zl2, zl3, zl4, zl5, zl6, zl7, zl8, zl9] <;> omega)) | refine Alt.std ?_))
  conv => whnf
  refine ⟨2, 30, rfl, rfl, by omega, by omega, ?_⟩
  repeat ((conv => whnf); (first | refine Cnd.yes ?_ | refine Cnd.no ?_ | refine And.intro rfl ?_ | refine And.intro (by omega) ?_ | (refine And.intro ?_ ?_; focus (simp only [IntKind.wrap_i64, IntKind.wrap_u64, IntKind.wrap_u32]; omega)) | (refine And.intro ?_ ?_; focus (simp only [zl1, zl2, zl3, zl4, zl5, zl6, zl7, zl8, zl9] <;> omega)) | refine Alt.std ?_))
  conv => whnf
  refine ⟨InvS 106 (fun s : Nat => n - s) (fun s : Nat => s ≤ n) (fun s : Nat => [(0, .v (.int .i64 n)), (1, .v (.int .i64 bad)), (5, .v (.bool true)), (6, .ptr 0 0 0 0), (8, .slc 2 11 0 s), (9, .v (.int .i64 s))]) (fun s : Nat => netHp true 2 30 0 [] ++ [.row true 33 mck ((wl bad s).map mrow)]) M, ⟨(fun s : Nat => n - s) 0, [0, 1, 9], tmk 106 0 ((fun s : Nat => [(0, .v (.int .i64 n)), (1, .v (.int .i64 bad)), (5, .v (.bool true)), (6, .ptr 0 0 0 0), (8, .slc 2 11 0 s), (9, .v (.int .i64 s))]) 0), (fun s : Nat => netHp true 2 30 0 [] ++ [.row true 33 mck ((wl bad s).map mrow)]) 0, ?_⟩, ?_⟩
  · repeat ((conv => whnf); (first | refine Cnd.yes ?_ | refine Cnd.no ?_ | refine And.intro rfl ?_ | refine And.intro (by omega) ?_ | (refine And.intro ?_ ?_; focus (simp only [IntKind.wrap_i64, IntKind.wrap_u64, IntKind.wrap_u32]; omega)) | (refine And.intro ?_ ?_; focus (simp only [zl1, zl2, zl3, zl4, zl5, zl6, zl7, zl8, zl9] <;> omega)) | refine Alt.std ?_))
    conv => whnf
    exact ⟨0, by omega, rfl, rfl, (tmkK_eq _ _ _ _).mpr rfl, rfl⟩
  · rintro cnt tm hp M1 ⟨i, hC_, rfl, rfl, htm, hhp_⟩
    replace hC_ : i ≤ n := hC_
    have hi := hC_
    replace htm : tmkK 106 0 [(0, .v (.int .i64 n)), (1, .v (.int .i64 bad)), (5, .v (.bool true)), (6, .ptr 0 0 0 0), (8, .slc 2 11 0 i), (9, .v (.int .i64 i))] (fun l => tm = l) := htm
    conv at htm => whnf
    subst htm
    replace hhp_ : hp = netHp true 2 30 0 [] ++ [.row true 33 mck ((wl bad i).map mrow)] := hhp_
    subst hhp_
    have hwl := wl_len bad i
    repeat ((conv => whnf); (first | refine Cnd.yes ?_ | refine Cnd.no ?_ | refine And.intro rfl ?_ | refine And.intro (by omega) ?_ | (refine And.intro ?_ ?_; focus (simp only [IntKind.wrap_i64, IntKind.wrap_u64, IntKind.wrap_u32]; omega)) | (refine And.intro ?_ ?_; focus (simp only [zl1, zl2, zl3, zl4, zl5, zl6, zl7, zl8, zl9] <;> omega)) | refine Alt.std ?_))
    conv => whnf
    refine Cnd.mk (fun hlt => ?_) fun hge => ?_
    · have hin : i < n := by have := of_decide_eq_true hlt; omega
      repeat ((conv => whnf); (first | refine Cnd.yes ?_ | refine Cnd.no ?_ | refine And.intro rfl ?_ | refine And.intro (by omega) ?_ | (refine And.intro ?_ ?_; focus (simp only [IntKind.wrap_i64, IntKind.wrap_u64, IntKind.wrap_u32]; omega)) | (refine And.intro ?_ ?_; focus (simp only [zl1, zl2, zl3, zl4, zl5, zl6, zl7, zl8, zl9] <;> omega)) | refine Alt.std ?_))
      conv => whnf
      have hm2 : (i : Int).tmod 2 = ((i % 2 : Nat) : Int) := by rw [Int.tmod_eq_emod_of_nonneg (by omega)]; omega
      have hwr := wrow (bad := bad) (i := i)
      by_cases h : i = bad
      · refine Cnd.tt (by simp only [beq_iff_eq]; omega) ?_
        repeat ((conv => whnf); (first | refine Cnd.yes ?_ | refine Cnd.no ?_ | refine And.intro rfl ?_ | refine And.intro (by omega) ?_ | (refine And.intro ?_ ?_; focus (simp only [IntKind.wrap_i64, IntKind.wrap_u64, IntKind.wrap_u32]; omega)) | (refine And.intro ?_ ?_; focus (simp only [zl1, zl2, zl3, zl4, zl5, zl6, zl7, zl8, zl9] <;> omega)) | refine Alt.std ?_))
        conv => whnf
        rw [hm2]
        (refine ⟨(fun s : Nat => n - s) (i + 1), [0, 1, 5], tmk 106 0 ((fun s : Nat => [(0, .v (.int .i64 n)), (1, .v (.int .i64 bad)), (5, .v (.bool true)), (6, .ptr 0 0 0 0), (8, .slc 2 11 0 s), (9, .v (.int .i64 s))]) (i + 1)), (fun s : Nat => netHp true 2 30 0 [] ++ [.row true 33 mck ((wl bad s).map mrow)]) (i + 1), ?_, ?_⟩; focus (first | (simp only []; omega) | omega))
        repeat ((conv => whnf); (first | refine Cnd.yes ?_ | refine Cnd.no ?_ | refine And.intro rfl ?_ | refine And.intro (by omega) ?_ | (refine And.intro ?_ ?_; focus (simp only [IntKind.wrap_i64, IntKind.wrap_u64, IntKind.wrap_u32]; omega)) | (refine And.intro ?_ ?_; focus (simp only [zl1, zl2, zl3, zl4, zl5, zl6, zl7, zl8, zl9] <;> omega)) | refine Alt.std ?_))
        conv => whnf
        refine ⟨by rw [← hwr]; simp [mrow, wm, h], ?_⟩
        repeat ((conv => whnf); (first | refine Cnd.yes ?_ | refine Cnd.no ?_ | refine And.intro rfl ?_ | refine And.intro (by omega) ?_ | (refine And.intro ?_ ?_; focus (simp only [IntKind.wrap_i64, IntKind.wrap_u64, IntKind.wrap_u32]; omega)) | (refine And.intro ?_ ?_; focus (simp only [zl1, zl2, zl3, zl4, zl5, zl6, zl7, zl8, zl9] <;> omega)) | refine Alt.std ?_))
        conv => whnf
        exact ⟨i + 1, (show i + 1 ≤ n by omega), rfl, rfl, (tmkK_eq _ _ _ _).mpr rfl, rfl⟩
      · refine Cnd.ff (by simp only [beq_eq_false_iff_ne]; omega) ?_
        repeat ((conv => whnf); (first | refine Cnd.yes ?_ | refine Cnd.no ?_ | refine And.intro rfl ?_ | refine And.intro (by omega) ?_ | (refine And.intro ?_ ?_; focus (simp only [IntKind.wrap_i64, IntKind.wrap_u64, IntKind.wrap_u32]; omega)) | (refine And.intro ?_ ?_; focus (simp only [zl1, zl2, zl3, zl4, zl5, zl6, zl7, zl8, zl9] <;> omega)) | refine Alt.std ?_))
        conv => whnf
        rw [hm2]
        (refine ⟨(fun s : Nat => n - s) (i + 1), [0, 1, 5], tmk 106 0 ((fun s : Nat => [(0, .v (.int .i64 n)), (1, .v (.int .i64 bad)), (5, .v (.bool true)), (6, .ptr 0 0 0 0), (8, .slc 2 11 0 s), (9, .v (.int .i64 s))]) (i + 1)), (fun s : Nat => netHp true 2 30 0 [] ++ [.row true 33 mck ((wl bad s).map mrow)]) (i + 1), ?_, ?_⟩; focus (first | (simp only []; omega) | omega))
        repeat ((conv => whnf); (first | refine Cnd.yes ?_ | refine Cnd.no ?_ | refine And.intro rfl ?_ | refine And.intro (by omega) ?_ | (refine And.intro ?_ ?_; focus (simp only [IntKind.wrap_i64, IntKind.wrap_u64, IntKind.wrap_u32]; omega)) | (refine And.intro ?_ ?_; focus (simp only [zl1, zl2, zl3, zl4, zl5, zl6, zl7, zl8, zl9] <;> omega)) | refine Alt.std ?_))
        conv => whnf
        refine ⟨by rw [← hwr]; simp [mrow, wm, h], ?_⟩
        repeat ((conv => whnf); (first | refine Cnd.yes ?_ | refine Cnd.no ?_ | refine And.intro rfl ?_ | refine And.intro (by omega) ?_ | (refine And.intro ?_ ?_; focus (simp only [IntKind.wrap_i64, IntKind.wrap_u64, IntKind.wrap_u32]; omega)) | (refine And.intro ?_ ?_; focus (simp only [zl1, zl2, zl3, zl4, zl5, zl6, zl7, zl8, zl9] <;> omega)) | refine Alt.std ?_))
        conv => whnf
        exact ⟨i + 1, (show i + 1 ≤ n by omega), rfl, rfl, (tmkK_eq _ _ _ _).mpr rfl, rfl⟩
    · have hin : i = n := by have := of_decide_eq_false hge; omega
      subst hin
      have hsend := whole_send bad i 0 (by omega)
      rw [show (List.range' 0 i).map (wm bad) = wl bad i from by rw [wl, List.range_eq_range'], show (List.range 0).map wf = [] from rfl, Nat.zero_add] at hsend
      repeat ((conv => whnf); (first | refine Cnd.yes ?_ | refine Cnd.no ?_ | refine And.intro rfl ?_ | refine And.intro (by omega) ?_ | (refine And.intro ?_ ?_; focus (simp only [IntKind.wrap_i64, IntKind.wrap_u64, IntKind.wrap_u32]; omega)) | (refine And.intro ?_ ?_; focus (simp only [zl1, zl2, zl3, zl4, zl5, zl6, zl7, zl8, zl9] <;> omega)) | refine Alt.std ?_))
      conv => whnf
      refine ⟨ad, 2, 30, 0, [], true, 33, wl bad i, hS, by rw [hwl], rfl, by simp, by omega, by omega, ?_⟩
      rw [hsend]
      by_cases h : bad < i
      · rw [if_pos ⟨by omega, h⟩]
        repeat ((conv => whnf); (first | refine Cnd.yes ?_ | refine Cnd.no ?_ | refine And.intro rfl ?_ | refine And.intro (by omega) ?_ | (refine And.intro ?_ ?_; focus (simp only [IntKind.wrap_i64, IntKind.wrap_u64, IntKind.wrap_u32]; omega)) | (refine And.intro ?_ ?_; focus (simp only [zl1, zl2, zl3, zl4, zl5, zl6, zl7, zl8, zl9] <;> omega)) | refine Alt.std ?_))
        conv => whnf
        refine Cnd.tt (decide_eq_true (by omega)) ?_
        repeat ((conv => whnf); (first | refine Cnd.yes ?_ | refine Cnd.no ?_ | refine And.intro rfl ?_ | refine And.intro (by omega) ?_ | (refine And.intro ?_ ?_; focus (simp only [IntKind.wrap_i64, IntKind.wrap_u64, IntKind.wrap_u32]; omega)) | (refine And.intro ?_ ?_; focus (simp only [zl1, zl2, zl3, zl4, zl5, zl6, zl7, zl8, zl9] <;> omega)) | refine Alt.std ?_))
        conv => whnf
        refine .inl ⟨ad, 2, bad, 103, bad, true, hS, by omega, rfl, rfl, ?_⟩
        rw [show ((((101 + 2 : Nat) : Int) == 103) && decide ((bad : Int) = bad)) = true from by simp]
        repeat ((conv => whnf); (first | refine Cnd.yes ?_ | refine Cnd.no ?_ | refine And.intro rfl ?_ | refine And.intro (by omega) ?_ | (refine And.intro ?_ ?_; focus (simp only [IntKind.wrap_i64, IntKind.wrap_u64, IntKind.wrap_u32]; omega)) | (refine And.intro ?_ ?_; focus (simp only [zl1, zl2, zl3, zl4, zl5, zl6, zl7, zl8, zl9] <;> omega)) | refine Alt.std ?_))
        conv => whnf
        refine ⟨true, 2, 30, 0, [], rfl, rfl, ?_⟩
        repeat ((conv => whnf); (first | refine Cnd.yes ?_ | refine Cnd.no ?_ | refine And.intro rfl ?_ | refine And.intro (by omega) ?_ | (refine And.intro ?_ ?_; focus (simp only [IntKind.wrap_i64, IntKind.wrap_u64, IntKind.wrap_u32]; omega)) | (refine And.intro ?_ ?_; focus (simp only [zl1, zl2, zl3, zl4, zl5, zl6, zl7, zl8, zl9] <;> omega)) | refine Alt.std ?_))
        conv => whnf
        exact hK _
      · rw [if_neg (by omega)]
        repeat ((conv => whnf); (first | refine Cnd.yes ?_ | refine Cnd.no ?_ | refine And.intro rfl ?_ | refine And.intro (by omega) ?_ | (refine And.intro ?_ ?_; focus (simp only [IntKind.wrap_i64, IntKind.wrap_u64, IntKind.wrap_u32]; omega)) | (refine And.intro ?_ ?_; focus (simp only [zl1, zl2, zl3, zl4, zl5, zl6, zl7, zl8, zl9] <;> omega)) | refine Alt.std ?_))
        conv => whnf
        refine Cnd.ff (decide_eq_false (by omega)) ?_
        repeat ((conv => whnf); (first | refine Cnd.yes ?_ | refine Cnd.no ?_ | refine And.intro rfl ?_ | refine And.intro (by omega) ?_ | (refine And.intro ?_ ?_; focus (simp only [IntKind.wrap_i64, IntKind.wrap_u64, IntKind.wrap_u32]; omega)) | (refine And.intro ?_ ?_; focus (simp only [zl1, zl2, zl3, zl4, zl5, zl6, zl7, zl8, zl9] <;> omega)) | refine Alt.std ?_))
        conv => whnf
        have hal : ((List.range i).map wf).length = i := by simp
        refine ⟨2, 30, _, (List.range i).map wf, rfl, rfl, by omega, ?_⟩
        rw [hal]
        repeat ((conv => whnf); (first | refine Cnd.yes ?_ | refine Cnd.no ?_ | refine And.intro rfl ?_ | refine And.intro (by omega) ?_ | (refine And.intro ?_ ?_; focus (simp only [IntKind.wrap_i64, IntKind.wrap_u64, IntKind.wrap_u32]; omega)) | (refine And.intro ?_ ?_; focus (simp only [zl1, zl2, zl3, zl4, zl5, zl6, zl7, zl8, zl9] <;> omega)) | refine Alt.std ?_))
        conv => whnf
        refine ⟨InvS 106 (fun s : Nat => i - s) (fun s : Nat => s ≤ i) (fun s : Nat => [(0, .v (.int .i64 i)), (5, .v (.bool true)), (11, .v .nilIface), (12, .slc 0 12 0 i), (13, .v (.int .i64 s))]) (fun s : Nat => [.row true 44 fck (((List.range i).map wf).map frow)]) M1, ⟨(fun s : Nat => i - s) 0, [4], tmk 106 0 ((fun s : Nat => [(0, .v (.int .i64 i)), (5, .v (.bool true)), (11, .v .nilIface), (12, .slc 0 12 0 i), (13, .v (.int .i64 s))]) 0), (fun s : Nat => [.row true 44 fck (((List.range i).map wf).map frow)]) 0, ?_⟩, ?_⟩
        · repeat ((conv => whnf); (first | refine Cnd.yes ?_ | refine Cnd.no ?_ | refine And.intro rfl ?_ | refine And.intro (by omega) ?_ | (refine And.intro ?_ ?_; focus (simp only [IntKind.wrap_i64, IntKind.wrap_u64, IntKind.wrap_u32]; omega)) | (refine And.intro ?_ ?_; focus (simp only [zl1, zl2, zl3, zl4, zl5, zl6, zl7, zl8, zl9] <;> omega)) | refine Alt.std ?_))
          conv => whnf
          exact ⟨0, by omega, rfl, rfl, (tmkK_eq _ _ _ _).mpr rfl, rfl⟩
        · rintro cnt tm hp M1 ⟨j, hC_, rfl, rfl, htm, hhp_⟩
          replace hC_ : j ≤ i := hC_
          have hj := hC_
          replace htm : tmkK 106 0 [(0, .v (.int .i64 i)), (5, .v (.bool true)), (11, .v .nilIface), (12, .slc 0 12 0 i), (13, .v (.int .i64 j))] (fun l => tm = l) := htm
          conv at htm => whnf
          subst htm
          replace hhp_ : hp = [.row true 44 fck (((List.range i).map wf).map frow)] := hhp_
          subst hhp_
          repeat ((conv => whnf); (first | refine Cnd.yes ?_ | refine Cnd.no ?_ | refine And.intro rfl ?_ | refine And.intro (by omega) ?_ | (refine And.intro ?_ ?_; focus (simp only [IntKind.wrap_i64, IntKind.wrap_u64, IntKind.wrap_u32]; omega)) | (refine And.intro ?_ ?_; focus (simp only [zl1, zl2, zl3, zl4, zl5, zl6, zl7, zl8, zl9] <;> omega)) | refine Alt.std ?_))
          conv => whnf
          refine Cnd.mk (fun hlt => ?_) fun hge => ?_
          · have hji : j < i := by have := of_decide_eq_true hlt; omega
            have hc := fun k => cell_map frow ((List.range i).map wf) default (show j < ((List.range i).map wf).length by omega) k
            rw [show ((List.range i).map wf).getD j default = wf j from by simp [List.getD, hji]] at hc
            generalize hR : ((List.range i).map wf).map frow = R at hc
            have hRl : R.length = i := by rw [← hR]; simp
            have e0 : toI (cellAt R (0 + (j : Int).toNat) (0 + 0)) = j := by rw [hc]; rfl
            have e2 : toI (cellAt R (0 + (j : Int).toNat) (0 + 1 + 1)) = j := by rw [hc]; rfl
            clear hc
            repeat ((conv => whnf); (first | refine Cnd.yes ?_ | refine Cnd.no ?_ | refine And.intro rfl ?_ | refine And.intro (by omega) ?_ | (refine And.intro ?_ ?_; focus (simp only [IntKind.wrap_i64, IntKind.wrap_u64, IntKind.wrap_u32]; omega)) | (refine And.intro ?_ ?_; focus (simp only [zl1, zl2, zl3, zl4, zl5, zl6, zl7, zl8, zl9] <;> omega)) | refine Alt.std ?_))
            conv => whnf
            rw [e0]
            refine Cnd.ff (by simp) ?_
            repeat ((conv => whnf); (first | refine Cnd.yes ?_ | refine Cnd.no ?_ | refine And.intro rfl ?_ | refine And.intro (by omega) ?_ | (refine And.intro ?_ ?_; focus (simp only [IntKind.wrap_i64, IntKind.wrap_u64, IntKind.wrap_u32]; omega)) | (refine And.intro ?_ ?_; focus (simp only [zl1, zl2, zl3, zl4, zl5, zl6, zl7, zl8, zl9] <;> omega)) | refine Alt.std ?_))
            conv => whnf
            rw [e2]
            refine Cnd.ff (by simp) ?_
            repeat ((conv => whnf); (first | refine Cnd.yes ?_ | refine Cnd.no ?_ | refine And.intro rfl ?_ | refine And.intro (by omega) ?_ | (refine And.intro ?_ ?_; focus (simp only [IntKind.wrap_i64, IntKind.wrap_u64, IntKind.wrap_u32]; omega)) | (refine And.intro ?_ ?_; focus (simp only [zl1, zl2, zl3, zl4, zl5, zl6, zl7, zl8, zl9] <;> omega)) | refine Alt.std ?_))
            conv => whnf
            rw [← hR]
            (refine ⟨(fun s : Nat => i - s) (j + 1), [0], tmk 106 0 ((fun s : Nat => [(0, .v (.int .i64 i)), (5, .v (.bool true)), (11, .v .nilIface), (12, .slc 0 12 0 i), (13, .v (.int .i64 s))]) (j + 1)), (fun s : Nat => [.row true 44 fck (((List.range i).map wf).map frow)]) (j + 1), ?_, ?_⟩; focus (first | (simp only []; omega) | omega))
            repeat ((conv => whnf); (first | refine Cnd.yes ?_ | refine Cnd.no ?_ | refine And.intro rfl ?_ | refine And.intro (by omega) ?_ | (refine And.intro ?_ ?_; focus (simp only [IntKind.wrap_i64, IntKind.wrap_u64, IntKind.wrap_u32]; omega)) | (refine And.intro ?_ ?_; focus (simp only [zl1, zl2, zl3, zl4, zl5, zl6, zl7, zl8, zl9] <;> omega)) | refine Alt.std ?_))
            conv => whnf
            exact ⟨j + 1, (show j + 1 ≤ i by omega), rfl, rfl, (tmkK_eq _ _ _ _).mpr rfl, rfl⟩
          · repeat ((conv => whnf); (first | refine Cnd.yes ?_ | refine Cnd.no ?_ | refine And.intro rfl ?_ | refine And.intro (by omega) ?_ | (refine And.intro ?_ ?_; focus (simp only [IntKind.wrap_i64, IntKind.wrap_u64, IntKind.wrap_u32]; omega)) | (refine And.intro ?_ ?_; focus (simp only [zl1, zl2, zl3, zl4, zl5, zl6, zl7, zl8, zl9] <;> omega)) | refine Alt.std ?_))
            conv => whnf
            rw [show ((i : Int) == (i : Int)) = true from by simp]
            exact hK _
end Go.Proofs.YthomcgclkbmnkaaDoor
