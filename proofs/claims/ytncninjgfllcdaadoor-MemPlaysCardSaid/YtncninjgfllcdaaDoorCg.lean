/-
  MemEdges, walked.
-/
import Derived.Test.YtncninjgfllcdaaDoorCf
import Derived.Test.YtncninjgfllcdaaDoorCs
namespace Go.Proofs.YtncninjgfllcdaaDoor
open Go Go.Vc
set_option maxRecDepth 100000
set_option linter.unusedSimpArgs false
set_option linter.unusedVariables false
noncomputable def specs5 : Nat → Option Vc.Trans := tget [(31, frameT putS'), (34, frameT fairS), (36, frameT getS), (12, frameT hasS), (15, frameT loadS), (14, frameT storeS), (9, frameT newS), (8, frameT firstS), (37, frameT equalS), (13, frameT lineS), (10, frameT isS)]
noncomputable def G5 : Nat → Option Vc.Trans := tabG specs5 (tget tab) 5
theorem G5_ok : GOK Tryd.prog G5 := tabG_ok (GOK.cons (frame_ok put_ok) (GOK.cons (frame_ok fair_ok) (GOK.cons (frame_ok get_ok) (GOK.cons (frame_ok has_ok) (GOK.cons (frame_ok load_ok) (GOK.cons (frame_ok store_ok) (GOK.cons (frame_ok new_ok) (GOK.cons (frame_ok first_ok) (GOK.cons (frame_ok equal_ok) (GOK.cons (frame_ok line_ok) (GOK.cons (frame_ok is_ok) .nil))))))))))) tab_ok 5
theorem hasB_no {n a : Nat} {s : Int} (h : ¬ ((a : Int) + s ≤ n)) : hasB n a s = false := by
  unfold hasB
  rw [decide_eq_false h, Bool.and_false]
theorem badedge_run (M : HL) (K : SV → List Ent → HL → Prop) (ad : Nat → Addr) (hS : Sents M ad) (x : Int) (n : Nat) (hn : n < 128) (hx : (IntKind.i64.wrap (x.tmod 128 + 128)).tmod 128 = n) (hb : ¬ okN n)
    (hK : ∀ hp, K (.v (.bool true)) hp M) : runF G5 pf3 [.v (.int .i64 x)] [] M K := by
  repeat ((conv => whnf); (first | refine Cnd.yes ?_ | refine Cnd.no ?_ | refine And.intro rfl ?_ | refine And.intro (by omega) ?_ | (refine And.intro ?_ ?_; focus (simp only [IntKind.wrap_i64, IntKind.wrap_u64, IntKind.wrap_u32]; omega)) | (refine And.intro ?_ ?_; focus (simp only [zl1, zl2, zl3, zl4, zl5, zl6, zl7, zl8] <;> omega))))
  conv => whnf
  rw [hx]
  refine .inl ⟨n, .v (.slice none 0 0), rfl, hb, _, hS.g 0 (by omega), ?_⟩
  repeat ((conv => whnf); (first | refine Cnd.yes ?_ | refine Cnd.no ?_ | refine And.intro rfl ?_ | refine And.intro (by omega) ?_ | (refine And.intro ?_ ?_; focus (simp only [IntKind.wrap_i64, IntKind.wrap_u64, IntKind.wrap_u32]; omega)) | (refine And.intro ?_ ?_; focus (simp only [zl1, zl2, zl3, zl4, zl5, zl6, zl7, zl8] <;> omega))))
  conv => whnf
  by_cases h0 : n = 0
  · refine Cnd.ff (decide_eq_false (by omega)) ?_
    repeat ((conv => whnf); (first | refine Cnd.yes ?_ | refine Cnd.no ?_ | refine And.intro rfl ?_ | refine And.intro (by omega) ?_ | (refine And.intro ?_ ?_; focus (simp only [IntKind.wrap_i64, IntKind.wrap_u64, IntKind.wrap_u32]; omega)) | (refine And.intro ?_ ?_; focus (simp only [zl1, zl2, zl3, zl4, zl5, zl6, zl7, zl8] <;> omega))))
    conv => whnf
    refine .inl ⟨ad, 5, 106, hS, by omega, rfl, rfl, ?_⟩
    repeat ((conv => whnf); (first | refine Cnd.yes ?_ | refine Cnd.no ?_ | refine And.intro rfl ?_ | refine And.intro (by omega) ?_ | (refine And.intro ?_ ?_; focus (simp only [IntKind.wrap_i64, IntKind.wrap_u64, IntKind.wrap_u32]; omega)) | (refine And.intro ?_ ?_; focus (simp only [zl1, zl2, zl3, zl4, zl5, zl6, zl7, zl8] <;> omega))))
    conv => whnf
    exact hK _
  · refine Cnd.tt (decide_eq_true (by omega)) ?_
    have hm : ¬ n % 16 = 0 := fun h => hb (by unfold okN; omega)
    repeat ((conv => whnf); (first | refine Cnd.yes ?_ | refine Cnd.no ?_ | refine And.intro rfl ?_ | refine And.intro (by omega) ?_ | (refine And.intro ?_ ?_; focus (simp only [IntKind.wrap_i64, IntKind.wrap_u64, IntKind.wrap_u32]; omega)) | (refine And.intro ?_ ?_; focus (simp only [zl1, zl2, zl3, zl4, zl5, zl6, zl7, zl8] <;> omega))))
    conv => whnf
    rw [show ((n : Int).tmod 16 == 0) = false from by rw [Int.tmod_eq_emod_of_nonneg (by omega), beq_eq_false_iff_ne]; omega]
    repeat ((conv => whnf); (first | refine Cnd.yes ?_ | refine Cnd.no ?_ | refine And.intro rfl ?_ | refine And.intro (by omega) ?_ | (refine And.intro ?_ ?_; focus (simp only [IntKind.wrap_i64, IntKind.wrap_u64, IntKind.wrap_u32]; omega)) | (refine And.intro ?_ ?_; focus (simp only [zl1, zl2, zl3, zl4, zl5, zl6, zl7, zl8] <;> omega))))
    conv => whnf
    refine .inl ⟨ad, 5, 106, hS, by omega, rfl, rfl, ?_⟩
    repeat ((conv => whnf); (first | refine Cnd.yes ?_ | refine Cnd.no ?_ | refine And.intro rfl ?_ | refine And.intro (by omega) ?_ | (refine And.intro ?_ ?_; focus (simp only [IntKind.wrap_i64, IntKind.wrap_u64, IntKind.wrap_u32]; omega)) | (refine And.intro ?_ ?_; focus (simp only [zl1, zl2, zl3, zl4, zl5, zl6, zl7, zl8] <;> omega))))
    conv => whnf
    exact hK _
def eHp (n : Nat) : List Ent := newT 0 n (iniC [] 0) ++ [.row true 3 [.int .i64] [[.int .i64 1], [.int .i64 2], [.int .i64 4]]]
set_option maxHeartbeats 4000000 in
theorem edges_run (M : HL) (K : SV → List Ent → HL → Prop) (ad : Nat → Addr) (hS : Sents M ad) (x : Int) (n : Nat) (hn : n < 128) (hx : (IntKind.i64.wrap (x.tmod 128 + 128)).tmod 128 = n) (hb : okN n)
    (hK : ∀ hp, K (.v (.bool true)) hp M) : runF G5 pf3 [.v (.int .i64 x)] [] M K := by
  have hb2 := hb
  unfold okN at hb2
  repeat ((conv => whnf); (first | refine Cnd.yes ?_ | refine Cnd.no ?_ | refine And.intro rfl ?_ | refine And.intro (by omega) ?_ | (refine And.intro ?_ ?_; focus (simp only [IntKind.wrap_i64, IntKind.wrap_u64, IntKind.wrap_u32]; omega)) | (refine And.intro ?_ ?_; focus (simp only [zl1, zl2, zl3, zl4, zl5, zl6, zl7, zl8] <;> omega))))
  conv => whnf
  rw [hx]
  refine .inr (.inl ⟨n, rfl, rfl, hb, ?_⟩)
  repeat ((conv => whnf); (first | refine Cnd.yes ?_ | refine Cnd.no ?_ | refine And.intro rfl ?_ | refine And.intro (by omega) ?_ | (refine And.intro ?_ ?_; focus (simp only [IntKind.wrap_i64, IntKind.wrap_u64, IntKind.wrap_u32]; omega)) | (refine And.intro ?_ ?_; focus (simp only [zl1, zl2, zl3, zl4, zl5, zl6, zl7, zl8] <;> omega))))
  conv => whnf
  refine Cnd.tt (decide_eq_true (by omega)) ?_
  repeat ((conv => whnf); (first | refine Cnd.yes ?_ | refine Cnd.no ?_ | refine And.intro rfl ?_ | refine And.intro (by omega) ?_ | (refine And.intro ?_ ?_; focus (simp only [IntKind.wrap_i64, IntKind.wrap_u64, IntKind.wrap_u32]; omega)) | (refine And.intro ?_ ?_; focus (simp only [zl1, zl2, zl3, zl4, zl5, zl6, zl7, zl8] <;> omega))))
  conv => whnf
  rw [show ((n : Int).tmod 16 == 0) = true from by rw [Int.tmod_eq_emod_of_nonneg (by omega), beq_iff_eq]; omega]
  repeat ((conv => whnf); (first | refine Cnd.yes ?_ | refine Cnd.no ?_ | refine And.intro rfl ?_ | refine And.intro (by omega) ?_ | (refine And.intro ?_ ?_; focus (simp only [IntKind.wrap_i64, IntKind.wrap_u64, IntKind.wrap_u32]; omega)) | (refine And.intro ?_ ?_; focus (simp only [zl1, zl2, zl3, zl4, zl5, zl6, zl7, zl8] <;> omega))))
  conv => whnf
  refine Cnd.ff (by simp) ?_
  repeat ((conv => whnf); (first | refine Cnd.yes ?_ | refine Cnd.no ?_ | refine And.intro rfl ?_ | refine And.intro (by omega) ?_ | (refine And.intro ?_ ?_; focus (simp only [IntKind.wrap_i64, IntKind.wrap_u64, IntKind.wrap_u32]; omega)) | (refine And.intro ?_ ?_; focus (simp only [zl1, zl2, zl3, zl4, zl5, zl6, zl7, zl8] <;> omega))))
  conv => whnf
  refine ⟨fun cnt tm hp M' => ∃ k : Nat, k ≤ 3 ∧ cnt = 3 - k ∧ M' = M ∧ tmkK 139 0 [(3, .v (.bool true)), (4, .v (.int .i64 n)), (5, .ptr 1 0 0 0), (58, .slc 2 1 0 3), (59, .v (.int .i64 3)), (60, .v (.int .i64 k))] (fun l => tm = l) ∧ hp = eHp n,
    ⟨3, [3, 4, 5], tmk 139 0 [(3, .v (.bool true)), (4, .v (.int .i64 n)), (5, .ptr 1 0 0 0), (58, .slc 2 1 0 3), (59, .v (.int .i64 3)), (60, .v (.int .i64 (0 : Nat)))], eHp n, ?_⟩, ?_⟩
  · repeat ((conv => whnf); (first | refine Cnd.yes ?_ | refine Cnd.no ?_ | refine And.intro rfl ?_ | refine And.intro (by omega) ?_ | (refine And.intro ?_ ?_; focus (simp only [IntKind.wrap_i64, IntKind.wrap_u64, IntKind.wrap_u32]; omega)) | (refine And.intro ?_ ?_; focus (simp only [zl1, zl2, zl3, zl4, zl5, zl6, zl7, zl8] <;> omega))))
    conv => whnf
    exact ⟨0, by omega, by omega, rfl, (tmkK_eq _ _ _ _).mpr rfl, rfl⟩
  · rintro cnt tm hp M' ⟨k, hk, rfl, rfl, htm, rfl⟩
    conv at htm => whnf
    subst htm
    have hc := iniC_lt [] 0
    by_cases h3 : k = 3
    · subst h3
      repeat ((conv => whnf); (first | refine Cnd.yes ?_ | refine Cnd.no ?_ | refine And.intro rfl ?_ | refine And.intro (by omega) ?_ | (refine And.intro ?_ ?_; focus (simp only [IntKind.wrap_i64, IntKind.wrap_u64, IntKind.wrap_u32]; omega)) | (refine And.intro ?_ ?_; focus (simp only [zl1, zl2, zl3, zl4, zl5, zl6, zl7, zl8] <;> omega))))
      conv => whnf
      have f1 : IntKind.i64.wrap (IntKind.i64.wrap ((n : Int).tdiv 16) - 1) = ((n / 16 - 1 : Nat) : Int) := by rw [Int.tdiv_eq_ediv_of_nonneg (by omega)]; simp only [IntKind.wrap_i64]; omega
      have f2 : IntKind.i64.wrap ((n : Int).tdiv 16) = ((n / 16 : Nat) : Int) := by rw [Int.tdiv_eq_ediv_of_nonneg (by omega)]; simp only [IntKind.wrap_i64]; omega
      rw [f1]
      refine .inr ⟨n, n / 16 - 1, iniC [] 0, rfl, rfl, by omega, by omega, hc, ?_⟩
      repeat ((conv => whnf); (first | refine Cnd.yes ?_ | refine Cnd.no ?_ | refine And.intro rfl ?_ | refine And.intro (by omega) ?_ | (refine And.intro ?_ ?_; focus (simp only [IntKind.wrap_i64, IntKind.wrap_u64, IntKind.wrap_u32]; omega)) | (refine And.intro ?_ ?_; focus (simp only [zl1, zl2, zl3, zl4, zl5, zl6, zl7, zl8] <;> omega))))
      conv => whnf
      rw [f2]
      refine .inl ⟨n, (n / 16 : Nat), iniC [] 0, rfl, rfl, by omega, .inr (by omega), ?_⟩
      repeat ((conv => whnf); (first | refine Cnd.yes ?_ | refine Cnd.no ?_ | refine And.intro rfl ?_ | refine And.intro (by omega) ?_ | (refine And.intro ?_ ?_; focus (simp only [IntKind.wrap_i64, IntKind.wrap_u64, IntKind.wrap_u32]; omega)) | (refine And.intro ?_ ?_; focus (simp only [zl1, zl2, zl3, zl4, zl5, zl6, zl7, zl8] <;> omega))))
      conv => whnf
      refine .inl ⟨65552, .v (.slice none 0 0), rfl, by unfold okN; omega, _, hS.g 0 (by omega), ?_⟩
      repeat ((conv => whnf); (first | refine Cnd.yes ?_ | refine Cnd.no ?_ | refine And.intro rfl ?_ | refine And.intro (by omega) ?_ | (refine And.intro ?_ ?_; focus (simp only [IntKind.wrap_i64, IntKind.wrap_u64, IntKind.wrap_u32]; omega)) | (refine And.intro ?_ ?_; focus (simp only [zl1, zl2, zl3, zl4, zl5, zl6, zl7, zl8] <;> omega))))
      conv => whnf
      refine ⟨true, n, 4294967292, iniC [] 0, 4, rfl, rfl, by omega, by omega, ?_⟩
      rw [hasB_no (by omega)]
      repeat ((conv => whnf); (first | refine Cnd.yes ?_ | refine Cnd.no ?_ | refine And.intro rfl ?_ | refine And.intro (by omega) ?_ | (refine And.intro ?_ ?_; focus (simp only [IntKind.wrap_i64, IntKind.wrap_u64, IntKind.wrap_u32]; omega)) | (refine And.intro ?_ ?_; focus (simp only [zl1, zl2, zl3, zl4, zl5, zl6, zl7, zl8] <;> omega))))
      conv => whnf
      refine ⟨true, n, 0, iniC [] 0, 8, rfl, rfl, by omega, by omega, ?_⟩
      rw [show hasB n 0 8 = false from by simp [hasB, fairB]]
      repeat ((conv => whnf); (first | refine Cnd.yes ?_ | refine Cnd.no ?_ | refine And.intro rfl ?_ | refine And.intro (by omega) ?_ | (refine And.intro ?_ ?_; focus (simp only [IntKind.wrap_i64, IntKind.wrap_u64, IntKind.wrap_u32]; omega)) | (refine And.intro ?_ ?_; focus (simp only [zl1, zl2, zl3, zl4, zl5, zl6, zl7, zl8] <;> omega))))
      conv => whnf
      refine .inl ⟨ad, 5, 106, hS, by omega, rfl, rfl, ?_⟩
      repeat ((conv => whnf); (first | refine Cnd.yes ?_ | refine Cnd.no ?_ | refine And.intro rfl ?_ | refine And.intro (by omega) ?_ | (refine And.intro ?_ ?_; focus (simp only [IntKind.wrap_i64, IntKind.wrap_u64, IntKind.wrap_u32]; omega)) | (refine And.intro ?_ ?_; focus (simp only [zl1, zl2, zl3, zl4, zl5, zl6, zl7, zl8] <;> omega))))
      conv => whnf
      exact hK _
    · obtain ⟨s, hs, hs2⟩ : ∃ s : Nat, toI (cellAt [[.int .i64 1], [.int .i64 2], [.int .i64 4]] (0 + (k : Int).toNat) 0) = s ∧ (s = 1 ∨ s = 2 ∨ s = 4) := by
        have : k = 0 ∨ k = 1 ∨ k = 2 := by omega
        rcases this with rfl | rfl | rfl
        · exact ⟨1, rfl, by omega⟩
        · exact ⟨2, rfl, by omega⟩
        · exact ⟨4, rfl, by omega⟩
      repeat ((conv => whnf); (first | refine Cnd.yes ?_ | refine Cnd.no ?_ | refine And.intro rfl ?_ | refine And.intro (by omega) ?_ | (refine And.intro ?_ ?_; focus (simp only [IntKind.wrap_i64, IntKind.wrap_u64, IntKind.wrap_u32]; omega)) | (refine And.intro ?_ ?_; focus (simp only [zl1, zl2, zl3, zl4, zl5, zl6, zl7, zl8] <;> omega))))
      conv => whnf
      refine Cnd.tt (decide_eq_true (by omega)) ?_
      repeat ((conv => whnf); (first | refine Cnd.yes ?_ | refine Cnd.no ?_ | refine And.intro rfl ?_ | refine And.intro (by omega) ?_ | (refine And.intro ?_ ?_; focus (simp only [IntKind.wrap_i64, IntKind.wrap_u64, IntKind.wrap_u32]; omega)) | (refine And.intro ?_ ?_; focus (simp only [zl1, zl2, zl3, zl4, zl5, zl6, zl7, zl8] <;> omega))))
      conv => whnf
      rw [hs]
      have e1 : IntKind.u32.wrap (IntKind.i64.wrap ((n : Int) - (s : Nat))) = ((n - s : Nat) : Int) := by simp only [IntKind.wrap_i64, IntKind.wrap_u32]; omega
      have e2 : IntKind.u32.wrap ((n : Nat) : Int) = ((n : Nat) : Int) := by rw [IntKind.wrap_u32]; omega
      have e3 : IntKind.u32.wrap (IntKind.i64.wrap (IntKind.i64.wrap ((n : Int) - (s : Nat)) + 1)) = ((n - s + 1 : Nat) : Int) := by simp only [IntKind.wrap_i64, IntKind.wrap_u32]; omega
      rw [e1]
      refine ⟨true, n, n - s, iniC [] 0, s, rfl, rfl, by omega, by omega, ?_⟩
      rw [hasB_mk (n := n) (a := n - s) (s := s) hs2 (by rcases hs2 with h | h | h <;> subst h <;> omega) (by omega)]
      repeat ((conv => whnf); (first | refine Cnd.yes ?_ | refine Cnd.no ?_ | refine And.intro rfl ?_ | refine And.intro (by omega) ?_ | (refine And.intro ?_ ?_; focus (simp only [IntKind.wrap_i64, IntKind.wrap_u64, IntKind.wrap_u32]; omega)) | (refine And.intro ?_ ?_; focus (simp only [zl1, zl2, zl3, zl4, zl5, zl6, zl7, zl8] <;> omega))))
      conv => whnf
      rw [e2]
      refine ⟨true, n, n, iniC [] 0, s, rfl, rfl, by omega, by omega, ?_⟩
      rw [hasB_no (by omega)]
      repeat ((conv => whnf); (first | refine Cnd.yes ?_ | refine Cnd.no ?_ | refine And.intro rfl ?_ | refine And.intro (by omega) ?_ | (refine And.intro ?_ ?_; focus (simp only [IntKind.wrap_i64, IntKind.wrap_u64, IntKind.wrap_u32]; omega)) | (refine And.intro ?_ ?_; focus (simp only [zl1, zl2, zl3, zl4, zl5, zl6, zl7, zl8] <;> omega))))
      conv => whnf
      by_cases h1 : s = 1
      · refine Cnd.ff (decide_eq_false (by omega)) ?_
        repeat ((conv => whnf); (first | refine Cnd.yes ?_ | refine Cnd.no ?_ | refine And.intro rfl ?_ | refine And.intro (by omega) ?_ | (refine And.intro ?_ ?_; focus (simp only [IntKind.wrap_i64, IntKind.wrap_u64, IntKind.wrap_u32]; omega)) | (refine And.intro ?_ ?_; focus (simp only [zl1, zl2, zl3, zl4, zl5, zl6, zl7, zl8] <;> omega))))
        conv => whnf
        refine ⟨3 - (k + 1), [0, 1, 2], tmk 139 0 [(3, .v (.bool true)), (4, .v (.int .i64 n)), (5, .ptr 1 0 0 0), (58, .slc 2 1 0 3), (59, .v (.int .i64 3)), (60, .v (.int .i64 (k + 1 : Nat)))], eHp n, by omega, ?_⟩
        repeat ((conv => whnf); (first | refine Cnd.yes ?_ | refine Cnd.no ?_ | refine And.intro rfl ?_ | refine And.intro (by omega) ?_ | (refine And.intro ?_ ?_; focus (simp only [IntKind.wrap_i64, IntKind.wrap_u64, IntKind.wrap_u32]; omega)) | (refine And.intro ?_ ?_; focus (simp only [zl1, zl2, zl3, zl4, zl5, zl6, zl7, zl8] <;> omega))))
        conv => whnf
        exact ⟨k + 1, by omega, rfl, rfl, (tmkK_eq _ _ _ _).mpr rfl, rfl⟩
      · refine Cnd.tt (decide_eq_true (by omega)) ?_
        repeat ((conv => whnf); (first | refine Cnd.yes ?_ | refine Cnd.no ?_ | refine And.intro rfl ?_ | refine And.intro (by omega) ?_ | (refine And.intro ?_ ?_; focus (simp only [IntKind.wrap_i64, IntKind.wrap_u64, IntKind.wrap_u32]; omega)) | (refine And.intro ?_ ?_; focus (simp only [zl1, zl2, zl3, zl4, zl5, zl6, zl7, zl8] <;> omega))))
        conv => whnf
        rw [e3]
        refine ⟨true, n, n - s + 1, iniC [] 0, s, rfl, rfl, by omega, by omega, ?_⟩
        rw [hasB_no (by omega)]
        repeat ((conv => whnf); (first | refine Cnd.yes ?_ | refine Cnd.no ?_ | refine And.intro rfl ?_ | refine And.intro (by omega) ?_ | (refine And.intro ?_ ?_; focus (simp only [IntKind.wrap_i64, IntKind.wrap_u64, IntKind.wrap_u32]; omega)) | (refine And.intro ?_ ?_; focus (simp only [zl1, zl2, zl3, zl4, zl5, zl6, zl7, zl8] <;> omega))))
        conv => whnf
        refine ⟨3 - (k + 1), [0, 1, 2], tmk 139 0 [(3, .v (.bool true)), (4, .v (.int .i64 n)), (5, .ptr 1 0 0 0), (58, .slc 2 1 0 3), (59, .v (.int .i64 3)), (60, .v (.int .i64 (k + 1 : Nat)))], eHp n, by omega, ?_⟩
        repeat ((conv => whnf); (first | refine Cnd.yes ?_ | refine Cnd.no ?_ | refine And.intro rfl ?_ | refine And.intro (by omega) ?_ | (refine And.intro ?_ ?_; focus (simp only [IntKind.wrap_i64, IntKind.wrap_u64, IntKind.wrap_u32]; omega)) | (refine And.intro ?_ ?_; focus (simp only [zl1, zl2, zl3, zl4, zl5, zl6, zl7, zl8] <;> omega))))
        conv => whnf
        exact ⟨k + 1, by omega, rfl, rfl, (tmkK_eq _ _ _ _).mpr rfl, rfl⟩
end Go.Proofs.YtncninjgfllcdaaDoor
