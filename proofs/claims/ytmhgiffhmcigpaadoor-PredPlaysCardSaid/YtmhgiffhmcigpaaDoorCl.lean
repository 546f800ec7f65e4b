/-
  PredTargets, walked.
-/
import Derived.Test.YtmhgiffhmcigpaaDoorCk
namespace Go.Proofs.YtmhgiffhmcigpaaDoor
open Go Go.Vc
set_option maxRecDepth 100000
set_option linter.unusedSimpArgs false
set_option linter.unusedVariables false
noncomputable def specs4 : Nat → Option Vc.Trans := tget [(7, frameT firstS), (8, frameT newS), (9, frameT learnS), (10, frameT takenS), (12, frameT seenS), (13, frameT targetS)]
noncomputable def G4 : Nat → Option Vc.Trans := tabG specs4 (tget tab) 5
theorem G4_ok : GOK Tryd.prog G4 := tabG_ok (GOK.cons (frame_ok first_ok) (GOK.cons (frame_ok new_ok) (GOK.cons (frame_ok learn_ok) (GOK.cons (frame_ok taken_ok) (GOK.cons (frame_ok seen_ok) (GOK.cons (frame_ok target_ok) .nil)))))) tab_ok 5
def sF (b : Nat) (l : List Nat) : Nat → Nat → Tg | 0 => fun _ => ⟨0, 0, false⟩ | i + 1 => seenF b (l.getD i 0) i (sF b l i)
def lastTo (b : Nat) (l : List Nat) (i : Nat) : Nat → Nat | 0 => i | k + 1 => if i < k ∧ slot b (l.getD k 0) = slot b (l.getD i 0) then k else lastTo b l i k
theorem lastTo_start {b : Nat} {l : List Nat} {i : Nat} : ∀ k, k ≤ i + 1 → lastTo b l i k = i
  | 0, _ => rfl
  | k + 1, h => by rw [lastTo, if_neg (by omega), lastTo_start k (by omega)]
theorem lastTo_lt {b : Nat} {l : List Nat} {i : Nat} : ∀ k, i < k → lastTo b l i k < k
  | 0, h => by omega
  | k + 1, h => by
    rw [lastTo]
    split
    · omega
    · by_cases hk : i < k
      · have := lastTo_lt (b := b) (l := l) k hk; omega
      · rw [lastTo_start k (by omega)]; omega
theorem sF_at {b : Nat} {l : List Nat} {i : Nat} : ∀ k, i < k → sF b l k (slot b (l.getD i 0)) = ⟨l.getD (lastTo b l i k) 0, lastTo b l i k, true⟩
  | 0, h => by omega
  | k + 1, h => by
    by_cases hk : i < k
    · rw [sF, seenF, lastTo]
      by_cases hs : slot b (l.getD k 0) = slot b (l.getD i 0)
      · rw [if_pos hs.symm, if_pos ⟨hk, hs⟩]
      · rw [if_neg (fun h => hs h.symm), if_neg (fun h => hs h.2), sF_at k hk]
    · obtain rfl : k = i := by omega
      rw [sF, seenF, if_pos rfl, lastTo_start _ (by omega)]
theorem seedC_ones (i : Nat) : seedC 4294967295 i = 3 := by
  unfold seedC
  have : ∀ j, j < 16 → ((4294967295 : Int) / 4 ^ j) % 4 = 3 := by decide
  exact this _ (Nat.mod_lt _ (by omega))
def pHp (e : TypeId) (m : Nat) (l : List Nat) (i : Nat) : List Ent := [.row false e [.int .u32] (l.map wrow), .row true 5 [.int .u8] (fill (seedC 4294967295) (2 ^ m) (2 ^ m)), .cells 62 [.v (.int .i64 m), .slc 1 1 0 (2 ^ m), .v (.int .u32 0)],
  .row true 72 [.int .u32, .int .u32, .bool] (tblOf (trow (sF m l i)) (2 ^ m)), .cells 66 [.v (.int .i64 m), .slc 3 3 0 (2 ^ m)], .cells 68 [.v (.slice none 0 0)], .cells 34 [.ptr 2 0 0 0, .ptr 4 0 0 0, .ptr 5 0 0 0]]
theorem tbl_zero (m : Nat) (l : List Nat) : tblOf (trow (sF m l 0)) (2 ^ m) = List.replicate (2 ^ m) [Value.int IntKind.u32 0, Value.int IntKind.u32 0, Value.bool false] := by
  have h : trow (sF m l 0) = fun _ => [Value.int IntKind.u32 0, Value.int IntKind.u32 0, Value.bool false] := rfl
  rw [h, tblOf, List.map_const', List.length_range]
theorem slotZ {b x : Nat} (hx : x < 4294967296) : Int.tmod (IntKind.u32.wrap ((x : Int).tdiv 4)) ((2 ^ b : Nat) : Int) = ((slot b x : Nat) : Int) := by
  have e1 : IntKind.u32.wrap ((x : Int).tdiv 4) = ((x / 4 : Nat) : Int) := by rw [Int.tdiv_eq_ediv_of_nonneg (by omega), IntKind.wrap_u32]; omega
  rw [e1, Int.tmod_eq_emod_of_nonneg (by omega), slot]
  omega
set_option maxHeartbeats 4000000 in
theorem targets_run (M : HL) (K : SV → List Ent → HL → Prop) (m : Nat) (x : Int) (e : TypeId) (l : List Nat) (hl : ∀ i, l.getD i 0 < 4294967296)
    (hm : 1 ≤ m ∧ m ≤ 10) (hx : Int.tmod (IntKind.i64.wrap (Int.tmod x 10 + 10)) 10 + 1 = m)
    (hK : ∀ hp, K (.v (.bool true)) hp M) : runF G4 pf4 [.v (.int .i64 x), .slc 0 1 0 l.length] [.row false e [.int .u32] (l.map wrow)] M K := by
  repeat ((conv => whnf); (first | refine Cnd.yes ?_ | refine Cnd.no ?_ | refine And.intro rfl ?_ | refine And.intro (by omega) ?_ | (refine And.intro ?_ ?_; focus (simp only [IntKind.wrap_i64, IntKind.wrap_u64, IntKind.wrap_u32]; omega)) | (refine And.intro ?_ ?_; focus (simp only [zl1, zl2, zl3, zl4, zl5, zl6, zl7, zl8] <;> omega))))
  conv => whnf
  have hx' : IntKind.i64.wrap ((IntKind.i64.wrap (x.tmod 10 + 10)).tmod 10 + 1) = m := by
    rw [hx, IntKind.wrap_i64]; omega
  rw [hx']
  refine Cnd.mk (fun hbig => ?_) fun hsmall => ?_
  · repeat ((conv => whnf); (first | refine Cnd.yes ?_ | refine Cnd.no ?_ | refine And.intro rfl ?_ | refine And.intro (by omega) ?_ | (refine And.intro ?_ ?_; focus (simp only [IntKind.wrap_i64, IntKind.wrap_u64, IntKind.wrap_u32]; omega)) | (refine And.intro ?_ ?_; focus (simp only [zl1, zl2, zl3, zl4, zl5, zl6, zl7, zl8] <;> omega))))
    conv => whnf
    exact hK _
  have hsm : l.length ≤ 20 := by have := of_decide_eq_false hsmall; omega
  repeat ((conv => whnf); (first | refine Cnd.yes ?_ | refine Cnd.no ?_ | refine And.intro rfl ?_ | refine And.intro (by omega) ?_ | (refine And.intro ?_ ?_; focus (simp only [IntKind.wrap_i64, IntKind.wrap_u64, IntKind.wrap_u32]; omega)) | (refine And.intro ?_ ?_; focus (simp only [zl1, zl2, zl3, zl4, zl5, zl6, zl7, zl8] <;> omega))))
  conv => whnf
  rw [Int.toNat_natCast]
  repeat ((conv => whnf); (first | refine Cnd.yes ?_ | refine Cnd.no ?_ | refine And.intro rfl ?_ | refine And.intro (by omega) ?_ | (refine And.intro ?_ ?_; focus (simp only [IntKind.wrap_i64, IntKind.wrap_u64, IntKind.wrap_u32]; omega)) | (refine And.intro ?_ ?_; focus (simp only [zl1, zl2, zl3, zl4, zl5, zl6, zl7, zl8] <;> omega))))
  conv => whnf
  refine ⟨fun cnt tm hp M' => ∃ i : Nat, i ≤ l.length ∧ cnt = l.length - i ∧ M' = M ∧ tmkK 138 0 [(0, .v (.int .i64 m)), (1, .slc 0 1 0 l.length), (6, .ptr 6 0 0 0), (8, .v (.int .i64 i))] (fun l => tm = l) ∧ hp = pHp e m l i,
    ⟨l.length, [0, 7, 8, 9, 10, 11, 12], tmk 138 0 [(0, .v (.int .i64 m)), (1, .slc 0 1 0 l.length), (6, .ptr 6 0 0 0), (8, .v (.int .i64 (0 : Nat)))], pHp e m l 0, ?_⟩, ?_⟩
  · repeat ((conv => whnf); (first | refine Cnd.yes ?_ | refine Cnd.no ?_ | refine And.intro rfl ?_ | refine And.intro (by omega) ?_ | (refine And.intro ?_ ?_; focus (simp only [IntKind.wrap_i64, IntKind.wrap_u64, IntKind.wrap_u32]; omega)) | (refine And.intro ?_ ?_; focus (simp only [zl1, zl2, zl3, zl4, zl5, zl6, zl7, zl8] <;> omega))))
    conv => whnf
    refine ⟨(tbl_zero _ _).symm, ?_⟩
    repeat ((conv => whnf); (first | refine Cnd.yes ?_ | refine Cnd.no ?_ | refine And.intro rfl ?_ | refine And.intro (by omega) ?_ | (refine And.intro ?_ ?_; focus (simp only [IntKind.wrap_i64, IntKind.wrap_u64, IntKind.wrap_u32]; omega)) | (refine And.intro ?_ ?_; focus (simp only [zl1, zl2, zl3, zl4, zl5, zl6, zl7, zl8] <;> omega))))
    conv => whnf
    exact ⟨0, by omega, by omega, rfl, (tmkK_eq _ _ _ _).mpr rfl, rfl⟩
  · rintro cnt tm hp M' ⟨i, hi, rfl, rfl, htm, rfl⟩
    conv at htm => whnf
    subst htm
    repeat ((conv => whnf); (first | refine Cnd.yes ?_ | refine Cnd.no ?_ | refine And.intro rfl ?_ | refine And.intro (by omega) ?_ | (refine And.intro ?_ ?_; focus (simp only [IntKind.wrap_i64, IntKind.wrap_u64, IntKind.wrap_u32]; omega)) | (refine And.intro ?_ ?_; focus (simp only [zl1, zl2, zl3, zl4, zl5, zl6, zl7, zl8] <;> omega))))
    conv => whnf
    refine Cnd.mk (fun hlt => ?_) fun hge => ?_
    · have hin : i < l.length := by have := of_decide_eq_true hlt; omega
      repeat ((conv => whnf); (first | refine Cnd.yes ?_ | refine Cnd.no ?_ | refine And.intro rfl ?_ | refine And.intro (by omega) ?_ | (refine And.intro ?_ ?_; focus (simp only [IntKind.wrap_i64, IntKind.wrap_u64, IntKind.wrap_u32]; omega)) | (refine And.intro ?_ ?_; focus (simp only [zl1, zl2, zl3, zl4, zl5, zl6, zl7, zl8] <;> omega))))
      conv => whnf
      rw [toI_w hin]
      have e3 : IntKind.u32.wrap ((i : Nat) : Int) = ((i : Nat) : Int) := by rw [IntKind.wrap_u32]; omega
      rw [e3]
      refine ⟨m, l.getD i 0, i, sF m l i, rfl, rfl, hm.2, hl i, ?_⟩
      repeat ((conv => whnf); (first | refine Cnd.yes ?_ | refine Cnd.no ?_ | refine And.intro rfl ?_ | refine And.intro (by omega) ?_ | (refine And.intro ?_ ?_; focus (simp only [IntKind.wrap_i64, IntKind.wrap_u64, IntKind.wrap_u32]; omega)) | (refine And.intro ?_ ?_; focus (simp only [zl1, zl2, zl3, zl4, zl5, zl6, zl7, zl8] <;> omega))))
      conv => whnf
      refine ⟨l.length - (i + 1), [0, 1, 2, 3, 4, 5, 6], tmk 138 0 [(0, .v (.int .i64 m)), (1, .slc 0 1 0 l.length), (6, .ptr 6 0 0 0), (8, .v (.int .i64 (i + 1 : Nat)))], pHp e m l (i + 1), by omega, ?_⟩
      repeat ((conv => whnf); (first | refine Cnd.yes ?_ | refine Cnd.no ?_ | refine And.intro rfl ?_ | refine And.intro (by omega) ?_ | (refine And.intro ?_ ?_; focus (simp only [IntKind.wrap_i64, IntKind.wrap_u64, IntKind.wrap_u32]; omega)) | (refine And.intro ?_ ?_; focus (simp only [zl1, zl2, zl3, zl4, zl5, zl6, zl7, zl8] <;> omega))))
      conv => whnf
      exact ⟨i + 1, by omega, rfl, rfl, (tmkK_eq _ _ _ _).mpr rfl, rfl⟩
    · have hin : i = l.length := by have := of_decide_eq_false hge; omega
      subst hin
      repeat ((conv => whnf); (first | refine Cnd.yes ?_ | refine Cnd.no ?_ | refine And.intro rfl ?_ | refine And.intro (by omega) ?_ | (refine And.intro ?_ ?_; focus (simp only [IntKind.wrap_i64, IntKind.wrap_u64, IntKind.wrap_u32]; omega)) | (refine And.intro ?_ ?_; focus (simp only [zl1, zl2, zl3, zl4, zl5, zl6, zl7, zl8] <;> omega))))
      conv => whnf
      refine ⟨fun cnt tm hp M1 => ∃ i : Nat, i ≤ l.length ∧ cnt = l.length - i ∧ M1 = M' ∧ tmkK 138 0 [(0, .v (.int .i64 m)), (1, .slc 0 1 0 l.length), (6, .ptr 6 0 0 0), (9, .v (.int .i64 i))] (fun l => tm = l) ∧ hp = pHp e m l l.length,
        ⟨l.length, [0, 1, 2, 3, 4, 5, 6], tmk 138 0 [(0, .v (.int .i64 m)), (1, .slc 0 1 0 l.length), (6, .ptr 6 0 0 0), (9, .v (.int .i64 (0 : Nat)))], pHp e m l l.length, ?_⟩, ?_⟩
      · repeat ((conv => whnf); (first | refine Cnd.yes ?_ | refine Cnd.no ?_ | refine And.intro rfl ?_ | refine And.intro (by omega) ?_ | (refine And.intro ?_ ?_; focus (simp only [IntKind.wrap_i64, IntKind.wrap_u64, IntKind.wrap_u32]; omega)) | (refine And.intro ?_ ?_; focus (simp only [zl1, zl2, zl3, zl4, zl5, zl6, zl7, zl8] <;> omega))))
        conv => whnf
        exact ⟨0, by omega, by omega, rfl, (tmkK_eq _ _ _ _).mpr rfl, rfl⟩
      · rintro cnt tm hp M1 ⟨i, hi, rfl, rfl, htm, rfl⟩
        conv at htm => whnf
        subst htm
        repeat ((conv => whnf); (first | refine Cnd.yes ?_ | refine Cnd.no ?_ | refine And.intro rfl ?_ | refine And.intro (by omega) ?_ | (refine And.intro ?_ ?_; focus (simp only [IntKind.wrap_i64, IntKind.wrap_u64, IntKind.wrap_u32]; omega)) | (refine And.intro ?_ ?_; focus (simp only [zl1, zl2, zl3, zl4, zl5, zl6, zl7, zl8] <;> omega))))
        conv => whnf
        refine Cnd.mk (fun hlt => ?_) fun hge => ?_
        · have hin : i < l.length := by have := of_decide_eq_true hlt; omega
          repeat ((conv => whnf); (first | refine Cnd.yes ?_ | refine Cnd.no ?_ | refine And.intro rfl ?_ | refine And.intro (by omega) ?_ | (refine And.intro ?_ ?_; focus (simp only [IntKind.wrap_i64, IntKind.wrap_u64, IntKind.wrap_u32]; omega)) | (refine And.intro ?_ ?_; focus (simp only [zl1, zl2, zl3, zl4, zl5, zl6, zl7, zl8] <;> omega))))
          conv => whnf
          have e6 : IntKind.u64.wrap ((m : Nat) : Int) = ((m : Nat) : Int) := by rw [IntKind.wrap_u64]; omega
          have e4 : IntKind.i64.wrap ((i : Int) + 1) = ((i + 1 : Nat) : Int) := by rw [IntKind.wrap_i64]; omega
          rw [e4]
          refine ⟨fun cnt tm hp M2 => ∃ k : Nat, i + 1 ≤ k ∧ k ≤ l.length ∧ cnt = l.length - k ∧ M2 = M1 ∧ tmkK 138 0 [(0, .v (.int .i64 m)), (1, .slc 0 1 0 l.length), (6, .ptr 6 0 0 0), (9, .v (.int .i64 i)), (10, .v (.int .i64 (lastTo m l i k))), (11, .v (.int .i64 k))] (fun l => tm = l) ∧ hp = pHp e m l l.length,
            ⟨l.length - (i + 1), [0, 1, 2, 3, 4, 5, 6], tmk 138 0 [(0, .v (.int .i64 m)), (1, .slc 0 1 0 l.length), (6, .ptr 6 0 0 0), (9, .v (.int .i64 i)), (10, .v (.int .i64 (lastTo m l i (i + 1)))), (11, .v (.int .i64 (i + 1 : Nat)))], pHp e m l l.length, ?_⟩, ?_⟩
          · repeat ((conv => whnf); (first | refine Cnd.yes ?_ | refine Cnd.no ?_ | refine And.intro rfl ?_ | refine And.intro (by omega) ?_ | (refine And.intro ?_ ?_; focus (simp only [IntKind.wrap_i64, IntKind.wrap_u64, IntKind.wrap_u32]; omega)) | (refine And.intro ?_ ?_; focus (simp only [zl1, zl2, zl3, zl4, zl5, zl6, zl7, zl8] <;> omega))))
            conv => whnf
            refine ⟨by rw [lastTo_start _ (by omega)], ?_⟩
            repeat ((conv => whnf); (first | refine Cnd.yes ?_ | refine Cnd.no ?_ | refine And.intro rfl ?_ | refine And.intro (by omega) ?_ | (refine And.intro ?_ ?_; focus (simp only [IntKind.wrap_i64, IntKind.wrap_u64, IntKind.wrap_u32]; omega)) | (refine And.intro ?_ ?_; focus (simp only [zl1, zl2, zl3, zl4, zl5, zl6, zl7, zl8] <;> omega))))
            conv => whnf
            exact ⟨i + 1, by omega, by omega, rfl, rfl, (tmkK_eq _ _ _ _).mpr rfl, rfl⟩
          · rintro cnt tm hp M2 ⟨k, hk0, hk, rfl, rfl, htm, rfl⟩
            conv at htm => whnf
            subst htm
            repeat ((conv => whnf); (first | refine Cnd.yes ?_ | refine Cnd.no ?_ | refine And.intro rfl ?_ | refine And.intro (by omega) ?_ | (refine And.intro ?_ ?_; focus (simp only [IntKind.wrap_i64, IntKind.wrap_u64, IntKind.wrap_u32]; omega)) | (refine And.intro ?_ ?_; focus (simp only [zl1, zl2, zl3, zl4, zl5, zl6, zl7, zl8] <;> omega))))
            conv => whnf
            refine Cnd.mk (fun hlt2 => ?_) fun hge2 => ?_
            · have hkn : k < l.length := by have := of_decide_eq_true hlt2; omega
              repeat ((conv => whnf); (first | refine Cnd.yes ?_ | refine Cnd.no ?_ | refine And.intro rfl ?_ | refine And.intro (by omega) ?_ | (refine And.intro ?_ ?_; focus (simp only [IntKind.wrap_i64, IntKind.wrap_u64, IntKind.wrap_u32]; omega)) | (refine And.intro ?_ ?_; focus (simp only [zl1, zl2, zl3, zl4, zl5, zl6, zl7, zl8] <;> omega))))
              conv => whnf
              rw [e6, shl32 (by omega)]
              refine ⟨by have := Nat.pow_pos (n := m) (show 0 < 2 by omega); omega, ?_⟩
              repeat ((conv => whnf); (first | refine Cnd.yes ?_ | refine Cnd.no ?_ | refine And.intro rfl ?_ | refine And.intro (by omega) ?_ | (refine And.intro ?_ ?_; focus (simp only [IntKind.wrap_i64, IntKind.wrap_u64, IntKind.wrap_u32]; omega)) | (refine And.intro ?_ ?_; focus (simp only [zl1, zl2, zl3, zl4, zl5, zl6, zl7, zl8] <;> omega))))
              conv => whnf
              rw [e6, shl32 (by omega)]
              refine ⟨by have := Nat.pow_pos (n := m) (show 0 < 2 by omega); omega, ?_⟩
              repeat ((conv => whnf); (first | refine Cnd.yes ?_ | refine Cnd.no ?_ | refine And.intro rfl ?_ | refine And.intro (by omega) ?_ | (refine And.intro ?_ ?_; focus (simp only [IntKind.wrap_i64, IntKind.wrap_u64, IntKind.wrap_u32]; omega)) | (refine And.intro ?_ ?_; focus (simp only [zl1, zl2, zl3, zl4, zl5, zl6, zl7, zl8] <;> omega))))
              conv => whnf
              rw [toI_w hkn, toI_w hin, slotZ (hl k), slotZ (hl i)]
              refine Cnd.mk (fun hs => ?_) fun hs => ?_
              · have hs : slot m (l.getD k 0) = slot m (l.getD i 0) := by have := eq_of_beq hs; omega
                repeat ((conv => whnf); (first | refine Cnd.yes ?_ | refine Cnd.no ?_ | refine And.intro rfl ?_ | refine And.intro (by omega) ?_ | (refine And.intro ?_ ?_; focus (simp only [IntKind.wrap_i64, IntKind.wrap_u64, IntKind.wrap_u32]; omega)) | (refine And.intro ?_ ?_; focus (simp only [zl1, zl2, zl3, zl4, zl5, zl6, zl7, zl8] <;> omega))))
                conv => whnf
                refine ⟨l.length - (k + 1), [0, 1, 2, 3, 4, 5, 6], tmk 138 0 [(0, .v (.int .i64 m)), (1, .slc 0 1 0 l.length), (6, .ptr 6 0 0 0), (9, .v (.int .i64 i)), (10, .v (.int .i64 (lastTo m l i (k + 1)))), (11, .v (.int .i64 (k + 1 : Nat)))], pHp e m l l.length, by omega, ?_⟩
                repeat ((conv => whnf); (first | refine Cnd.yes ?_ | refine Cnd.no ?_ | refine And.intro rfl ?_ | refine And.intro (by omega) ?_ | (refine And.intro ?_ ?_; focus (simp only [IntKind.wrap_i64, IntKind.wrap_u64, IntKind.wrap_u32]; omega)) | (refine And.intro ?_ ?_; focus (simp only [zl1, zl2, zl3, zl4, zl5, zl6, zl7, zl8] <;> omega))))
                conv => whnf
                refine ⟨by rw [lastTo, if_pos ⟨by omega, hs⟩], ?_⟩
                repeat ((conv => whnf); (first | refine Cnd.yes ?_ | refine Cnd.no ?_ | refine And.intro rfl ?_ | refine And.intro (by omega) ?_ | (refine And.intro ?_ ?_; focus (simp only [IntKind.wrap_i64, IntKind.wrap_u64, IntKind.wrap_u32]; omega)) | (refine And.intro ?_ ?_; focus (simp only [zl1, zl2, zl3, zl4, zl5, zl6, zl7, zl8] <;> omega))))
                conv => whnf
                exact ⟨k + 1, by omega, by omega, rfl, rfl, (tmkK_eq _ _ _ _).mpr rfl, rfl⟩
              · have hs : ¬ slot m (l.getD k 0) = slot m (l.getD i 0) := fun h => by rw [h, beq_self_eq_true] at hs; cases hs
                repeat ((conv => whnf); (first | refine Cnd.yes ?_ | refine Cnd.no ?_ | refine And.intro rfl ?_ | refine And.intro (by omega) ?_ | (refine And.intro ?_ ?_; focus (simp only [IntKind.wrap_i64, IntKind.wrap_u64, IntKind.wrap_u32]; omega)) | (refine And.intro ?_ ?_; focus (simp only [zl1, zl2, zl3, zl4, zl5, zl6, zl7, zl8] <;> omega))))
                conv => whnf
                refine ⟨l.length - (k + 1), [0, 1, 2, 3, 4, 5, 6], tmk 138 0 [(0, .v (.int .i64 m)), (1, .slc 0 1 0 l.length), (6, .ptr 6 0 0 0), (9, .v (.int .i64 i)), (10, .v (.int .i64 (lastTo m l i (k + 1)))), (11, .v (.int .i64 (k + 1 : Nat)))], pHp e m l l.length, by omega, ?_⟩
                repeat ((conv => whnf); (first | refine Cnd.yes ?_ | refine Cnd.no ?_ | refine And.intro rfl ?_ | refine And.intro (by omega) ?_ | (refine And.intro ?_ ?_; focus (simp only [IntKind.wrap_i64, IntKind.wrap_u64, IntKind.wrap_u32]; omega)) | (refine And.intro ?_ ?_; focus (simp only [zl1, zl2, zl3, zl4, zl5, zl6, zl7, zl8] <;> omega))))
                conv => whnf
                refine ⟨by rw [lastTo, if_neg (fun h => hs h.2)], ?_⟩
                repeat ((conv => whnf); (first | refine Cnd.yes ?_ | refine Cnd.no ?_ | refine And.intro rfl ?_ | refine And.intro (by omega) ?_ | (refine And.intro ?_ ?_; focus (simp only [IntKind.wrap_i64, IntKind.wrap_u64, IntKind.wrap_u32]; omega)) | (refine And.intro ?_ ?_; focus (simp only [zl1, zl2, zl3, zl4, zl5, zl6, zl7, zl8] <;> omega))))
                conv => whnf
                exact ⟨k + 1, by omega, by omega, rfl, rfl, (tmkK_eq _ _ _ _).mpr rfl, rfl⟩
            · have hkn : k = l.length := by have := of_decide_eq_false hge2; omega
              subst hkn
              have hll := lastTo_lt (b := m) (l := l) (i := i) l.length hin
              have hsF := sF_at (b := m) (l := l) (i := i) l.length hin
              repeat ((conv => whnf); (first | refine Cnd.yes ?_ | refine Cnd.no ?_ | refine And.intro rfl ?_ | refine And.intro (by omega) ?_ | (refine And.intro ?_ ?_; focus (simp only [IntKind.wrap_i64, IntKind.wrap_u64, IntKind.wrap_u32]; omega)) | (refine And.intro ?_ ?_; focus (simp only [zl1, zl2, zl3, zl4, zl5, zl6, zl7, zl8] <;> omega))))
              conv => whnf
              intro Mr hMr
              repeat ((conv => whnf); (first | refine Cnd.yes ?_ | refine Cnd.no ?_ | refine And.intro rfl ?_ | refine And.intro (by omega) ?_ | (refine And.intro ?_ ?_; focus (simp only [IntKind.wrap_i64, IntKind.wrap_u64, IntKind.wrap_u32]; omega)) | (refine And.intro ?_ ?_; focus (simp only [zl1, zl2, zl3, zl4, zl5, zl6, zl7, zl8] <;> omega))))
              conv => whnf
              rw [toI_w hin]
              refine ⟨false, m, l.getD i 0, sF m l l.length, rfl, rfl, hm.2, hl i, ?_⟩
              repeat ((conv => whnf); (first | refine Cnd.yes ?_ | refine Cnd.no ?_ | refine And.intro rfl ?_ | refine And.intro (by omega) ?_ | (refine And.intro ?_ ?_; focus (simp only [IntKind.wrap_i64, IntKind.wrap_u64, IntKind.wrap_u32]; omega)) | (refine And.intro ?_ ?_; focus (simp only [zl1, zl2, zl3, zl4, zl5, zl6, zl7, zl8] <;> omega))))
              conv => whnf
              rw [hsF]
              by_cases hac : l.getD (lastTo m l i l.length) 0 = l.getD i 0
              · rw [decide_eq_true (show (⟨l.getD (lastTo m l i l.length) 0, lastTo m l i l.length, true⟩ : Tg).is = true ∧ (⟨l.getD (lastTo m l i l.length) 0, lastTo m l i l.length, true⟩ : Tg).pc = l.getD i 0 from ⟨rfl, hac⟩),
                  if_pos (show (⟨l.getD (lastTo m l i l.length) 0, lastTo m l i l.length, true⟩ : Tg).is = true ∧ (⟨l.getD (lastTo m l i l.length) 0, lastTo m l i l.length, true⟩ : Tg).pc = l.getD i 0 from ⟨rfl, hac⟩)]
                repeat ((conv => whnf); (first | refine Cnd.yes ?_ | refine Cnd.no ?_ | refine And.intro rfl ?_ | refine And.intro (by omega) ?_ | (refine And.intro ?_ ?_; focus (simp only [IntKind.wrap_i64, IntKind.wrap_u64, IntKind.wrap_u32]; omega)) | (refine And.intro ?_ ?_; focus (simp only [zl1, zl2, zl3, zl4, zl5, zl6, zl7, zl8] <;> omega))))
                conv => whnf
                rw [toI_w hll, toI_w hin, hac]
                refine Cnd.ff (by simp) ?_
                repeat ((conv => whnf); (first | refine Cnd.yes ?_ | refine Cnd.no ?_ | refine And.intro rfl ?_ | refine And.intro (by omega) ?_ | (refine And.intro ?_ ?_; focus (simp only [IntKind.wrap_i64, IntKind.wrap_u64, IntKind.wrap_u32]; omega)) | (refine And.intro ?_ ?_; focus (simp only [zl1, zl2, zl3, zl4, zl5, zl6, zl7, zl8] <;> omega))))
                conv => whnf
                refine Cnd.ff (by rw [IntKind.wrap_u32]; simp; omega) ?_
                repeat ((conv => whnf); (first | refine Cnd.yes ?_ | refine Cnd.no ?_ | refine And.intro rfl ?_ | refine And.intro (by omega) ?_ | (refine And.intro ?_ ?_; focus (simp only [IntKind.wrap_i64, IntKind.wrap_u64, IntKind.wrap_u32]; omega)) | (refine And.intro ?_ ?_; focus (simp only [zl1, zl2, zl3, zl4, zl5, zl6, zl7, zl8] <;> omega))))
                conv => whnf
                intro Mr2 hMr2
                repeat ((conv => whnf); (first | refine Cnd.yes ?_ | refine Cnd.no ?_ | refine And.intro rfl ?_ | refine And.intro (by omega) ?_ | (refine And.intro ?_ ?_; focus (simp only [IntKind.wrap_i64, IntKind.wrap_u64, IntKind.wrap_u32]; omega)) | (refine And.intro ?_ ?_; focus (simp only [zl1, zl2, zl3, zl4, zl5, zl6, zl7, zl8] <;> omega))))
                conv => whnf
                rw [toI_w hin]
                refine ⟨false, m, l.getD i 0, sF m l l.length, rfl, rfl, hm.2, hl i, ?_⟩
                repeat ((conv => whnf); (first | refine Cnd.yes ?_ | refine Cnd.no ?_ | refine And.intro rfl ?_ | refine And.intro (by omega) ?_ | (refine And.intro ?_ ?_; focus (simp only [IntKind.wrap_i64, IntKind.wrap_u64, IntKind.wrap_u32]; omega)) | (refine And.intro ?_ ?_; focus (simp only [zl1, zl2, zl3, zl4, zl5, zl6, zl7, zl8] <;> omega))))
                conv => whnf
                rw [hsF, decide_eq_true (show (⟨l.getD (lastTo m l i l.length) 0, lastTo m l i l.length, true⟩ : Tg).is = true ∧ (⟨l.getD (lastTo m l i l.length) 0, lastTo m l i l.length, true⟩ : Tg).pc = l.getD i 0 from ⟨rfl, hac⟩),
                  if_pos (show (⟨l.getD (lastTo m l i l.length) 0, lastTo m l i l.length, true⟩ : Tg).is = true ∧ (⟨l.getD (lastTo m l i l.length) 0, lastTo m l i l.length, true⟩ : Tg).pc = l.getD i 0 from ⟨rfl, hac⟩)]
                repeat ((conv => whnf); (first | refine Cnd.yes ?_ | refine Cnd.no ?_ | refine And.intro rfl ?_ | refine And.intro (by omega) ?_ | (refine And.intro ?_ ?_; focus (simp only [IntKind.wrap_i64, IntKind.wrap_u64, IntKind.wrap_u32]; omega)) | (refine And.intro ?_ ?_; focus (simp only [zl1, zl2, zl3, zl4, zl5, zl6, zl7, zl8] <;> omega))))
                conv => whnf
                refine ⟨false, m, 0, l.getD i 0, seedC 4294967295, rfl, rfl, hm.2, Nat.pow_pos (by omega), hl i, ?_⟩
                repeat ((conv => whnf); (first | refine Cnd.yes ?_ | refine Cnd.no ?_ | refine And.intro rfl ?_ | refine And.intro (by omega) ?_ | (refine And.intro ?_ ?_; focus (simp only [IntKind.wrap_i64, IntKind.wrap_u64, IntKind.wrap_u32]; omega)) | (refine And.intro ?_ ?_; focus (simp only [zl1, zl2, zl3, zl4, zl5, zl6, zl7, zl8] <;> omega))))
                conv => whnf
                rw [seedC_ones]
                repeat ((conv => whnf); (first | refine Cnd.yes ?_ | refine Cnd.no ?_ | refine And.intro rfl ?_ | refine And.intro (by omega) ?_ | (refine And.intro ?_ ?_; focus (simp only [IntKind.wrap_i64, IntKind.wrap_u64, IntKind.wrap_u32]; omega)) | (refine And.intro ?_ ?_; focus (simp only [zl1, zl2, zl3, zl4, zl5, zl6, zl7, zl8] <;> omega))))
                conv => whnf
                refine Cnd.ff (by simp) ?_
                repeat ((conv => whnf); (first | refine Cnd.yes ?_ | refine Cnd.no ?_ | refine And.intro rfl ?_ | refine And.intro (by omega) ?_ | (refine And.intro ?_ ?_; focus (simp only [IntKind.wrap_i64, IntKind.wrap_u64, IntKind.wrap_u32]; omega)) | (refine And.intro ?_ ?_; focus (simp only [zl1, zl2, zl3, zl4, zl5, zl6, zl7, zl8] <;> omega))))
                conv => whnf
                refine ⟨l.length - (i + 1), [0, 1, 2, 3, 4, 5, 6], tmk 138 0 [(0, .v (.int .i64 m)), (1, .slc 0 1 0 l.length), (6, .ptr 6 0 0 0), (9, .v (.int .i64 (i + 1 : Nat)))], pHp e m l l.length, by omega, ?_⟩
                repeat ((conv => whnf); (first | refine Cnd.yes ?_ | refine Cnd.no ?_ | refine And.intro rfl ?_ | refine And.intro (by omega) ?_ | (refine And.intro ?_ ?_; focus (simp only [IntKind.wrap_i64, IntKind.wrap_u64, IntKind.wrap_u32]; omega)) | (refine And.intro ?_ ?_; focus (simp only [zl1, zl2, zl3, zl4, zl5, zl6, zl7, zl8] <;> omega))))
                conv => whnf
                exact ⟨i + 1, by omega, rfl, rfl, (tmkK_eq _ _ _ _).mpr rfl, rfl⟩
              · rw [decide_eq_false (show ¬ ((⟨l.getD (lastTo m l i l.length) 0, lastTo m l i l.length, true⟩ : Tg).is = true ∧ (⟨l.getD (lastTo m l i l.length) 0, lastTo m l i l.length, true⟩ : Tg).pc = l.getD i 0) from fun h => hac h.2)]
                repeat ((conv => whnf); (first | refine Cnd.yes ?_ | refine Cnd.no ?_ | refine And.intro rfl ?_ | refine And.intro (by omega) ?_ | (refine And.intro ?_ ?_; focus (simp only [IntKind.wrap_i64, IntKind.wrap_u64, IntKind.wrap_u32]; omega)) | (refine And.intro ?_ ?_; focus (simp only [zl1, zl2, zl3, zl4, zl5, zl6, zl7, zl8] <;> omega))))
                conv => whnf
                rw [toI_w hll, toI_w hin]
                refine Cnd.ff (by rw [show ((((l.getD (lastTo m l i l.length) 0 : Nat) : Int) == ((l.getD i 0 : Nat) : Int))) = false from by rw [beq_eq_false_iff_ne]; omega]; rfl) ?_
                repeat ((conv => whnf); (first | refine Cnd.yes ?_ | refine Cnd.no ?_ | refine And.intro rfl ?_ | refine And.intro (by omega) ?_ | (refine And.intro ?_ ?_; focus (simp only [IntKind.wrap_i64, IntKind.wrap_u64, IntKind.wrap_u32]; omega)) | (refine And.intro ?_ ?_; focus (simp only [zl1, zl2, zl3, zl4, zl5, zl6, zl7, zl8] <;> omega))))
                conv => whnf
                refine ⟨l.length - (i + 1), [0, 1, 2, 3, 4, 5, 6], tmk 138 0 [(0, .v (.int .i64 m)), (1, .slc 0 1 0 l.length), (6, .ptr 6 0 0 0), (9, .v (.int .i64 (i + 1 : Nat)))], pHp e m l l.length, by omega, ?_⟩
                repeat ((conv => whnf); (first | refine Cnd.yes ?_ | refine Cnd.no ?_ | refine And.intro rfl ?_ | refine And.intro (by omega) ?_ | (refine And.intro ?_ ?_; focus (simp only [IntKind.wrap_i64, IntKind.wrap_u64, IntKind.wrap_u32]; omega)) | (refine And.intro ?_ ?_; focus (simp only [zl1, zl2, zl3, zl4, zl5, zl6, zl7, zl8] <;> omega))))
                conv => whnf
                exact ⟨i + 1, by omega, rfl, rfl, (tmkK_eq _ _ _ _).mpr rfl, rfl⟩
        · have hin : i = l.length := by have := of_decide_eq_false hge; omega
          subst hin
          repeat ((conv => whnf); (first | refine Cnd.yes ?_ | refine Cnd.no ?_ | refine And.intro rfl ?_ | refine And.intro (by omega) ?_ | (refine And.intro ?_ ?_; focus (simp only [IntKind.wrap_i64, IntKind.wrap_u64, IntKind.wrap_u32]; omega)) | (refine And.intro ?_ ?_; focus (simp only [zl1, zl2, zl3, zl4, zl5, zl6, zl7, zl8] <;> omega))))
          conv => whnf
          exact hK _
end Go.Proofs.YtmhgiffhmcigpaaDoor
