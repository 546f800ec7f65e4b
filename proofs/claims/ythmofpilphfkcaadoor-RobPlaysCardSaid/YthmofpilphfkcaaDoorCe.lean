/-
  IndexFunc over the buffer, Cut: walked (a range over slices.Backward); their contracts.
-/
import Derived.Test.YthmofpilphfkcaaDoorCb
import Derived.Test.YthmofpilphfkcaaDoorVcu
namespace Go.Proofs.YthmofpilphfkcaaDoor
open Go Go.Vc
set_option maxRecDepth 100000
set_option linter.unusedSimpArgs false
set_option linter.unusedVariables false
set_option maxHeartbeats 4000000
theorem cellI {L post : List (Int × Bool)} {i : Nat} (hi : i < L.length) : toI (cellAt ((L ++ post).map orow) i 0) = (L.getD i (0, false)).1 := by
  have h : ((L ++ post).map orow).getD i [] = orow (L.getD i (0, false)) := by
    rw [List.getD_eq_getElem?_getD, List.getElem?_map, List.getElem?_append_left hi]
    simp [hi]
  show toI ((((L ++ post).map orow).getD i []).getD 0 undef) = _
  rw [h]
  rfl
theorem cellO {L post : List (Int × Bool)} {i : Nat} (hi : i < L.length) : toI (cellAt ((L ++ post).map orow) (0 + (i : Int).toNat) 0) = (L.getD i (0, false)).1 := by
  rw [Nat.zero_add, Int.toNat_natCast]
  exact cellI hi
/-- Where id stands; -1: nowhere. -/
def IxOK (id : Int) (L : List (Int × Bool)) (k : Int) : Prop := (k = -1 ∧ ∀ j, j < L.length → (L.getD j (0, false)).1 ≠ id) ∨ ∃ i : Nat, i < L.length ∧ k = i ∧ (L.getD i (0, false)).1 = id ∧ ∀ j, j < i → (L.getD j (0, false)).1 ≠ id
theorem idx_run (M : HL) (K : SV → List Ent → HL → Prop) (o : Bool) (id : Int) (L post : List (Int × Bool)) (hl : L.length ≤ 1000)
    (hK : ∀ k, IxOK id L k → K (.v (.int .i64 k)) [.row o 58 [.int .i64, .bool] ((L ++ post).map orow), .cells 3 [.v (.int .i64 id)]] M) :
    runF G0 pf25 [.slc 0 2 0 L.length, .fn (.func 26) [] [.ptr 1 0 0 0]] [.row o 58 [.int .i64, .bool] ((L ++ post).map orow), .cells 3 [.v (.int .i64 id)]] M fun v hp2 M2 => ∃ m v' hp', Wk (llen [Ent.row o 58 [.int .i64, .bool] ((L ++ post).map orow), .cells 3 [.v (.int .i64 id)]]) m [v] hp2 [v'] hp' (K v' hp' M2) := by
  repeat ((conv => whnf); (first | refine Cnd.yes ?_ | refine Cnd.no ?_ | refine And.intro rfl ?_ | refine And.intro (by omega) ?_ | (refine And.intro ?_ ?_; focus (simp only [IntKind.wrap_i64, IntKind.wrap_u64, IntKind.wrap_u32]; omega)) | (refine And.intro ?_ ?_; focus (simp only [zl1, zl2, zl3, zl4, zl5, zl6, zl7, zl8, zl9] <;> omega)) | (refine Cnd.tt ?_ ?_; focus (first | (apply decide_eq_true; omega) | (simp only [zq1, zq2, zq3, zq4, zq5, zq6, zq7, zq8, zq9, zq10, zq11, zq12] <;> omega) | rfl)) | (refine Cnd.ff ?_ ?_; focus (first | (apply decide_eq_false; omega) | (simp only [zq1, zq2, zq3, zq4, zq5, zq6, zq7, zq8, zq9, zq10, zq11, zq12] <;> omega) | rfl))))
  conv => whnf
  refine ⟨InvS 19 (fun s : Nat => L.length - s) (fun s : Nat => s ≤ L.length ∧ ∀ j, j < s → (L.getD j (0, false)).1 ≠ id) (fun s : Nat => [(0, .slc 0 2 0 L.length), (1, .fn (.func 26) [] [.ptr 1 0 0 0]), (7, .v (.int .i64 L.length)), (8, .v (.int .i64 s))]) (fun s : Nat => [Ent.row o 58 [.int .i64, .bool] ((L ++ post).map orow), .cells 3 [.v (.int .i64 id)]]) M, ⟨(fun s : Nat => L.length - s) 0, [0, 1], tmk 19 0 ((fun s : Nat => [(0, .slc 0 2 0 L.length), (1, .fn (.func 26) [] [.ptr 1 0 0 0]), (7, .v (.int .i64 L.length)), (8, .v (.int .i64 s))]) 0), (fun s : Nat => [Ent.row o 58 [.int .i64, .bool] ((L ++ post).map orow), .cells 3 [.v (.int .i64 id)]]) 0, ?_⟩, ?_⟩
  · repeat ((conv => whnf); (first | refine Cnd.yes ?_ | refine Cnd.no ?_ | refine And.intro rfl ?_ | refine And.intro (by omega) ?_ | (refine And.intro ?_ ?_; focus (simp only [IntKind.wrap_i64, IntKind.wrap_u64, IntKind.wrap_u32]; omega)) | (refine And.intro ?_ ?_; focus (simp only [zl1, zl2, zl3, zl4, zl5, zl6, zl7, zl8, zl9] <;> omega))))
    conv => whnf
    exact ⟨0, ⟨Nat.zero_le _, fun j hj => by omega⟩, rfl, rfl, (tmkK_eq _ _ _ _).mpr rfl, rfl⟩
  · rintro cnt tm hp M1 ⟨i, hC_, rfl, rfl, htm, hhp_⟩
    replace hC_ : i ≤ L.length ∧ ∀ j, j < i → (L.getD j (0, false)).1 ≠ id := hC_
    obtain ⟨hi,hall⟩ := hC_
    replace htm : tmkK 19 0 [(0, .slc 0 2 0 L.length), (1, .fn (.func 26) [] [.ptr 1 0 0 0]), (7, .v (.int .i64 L.length)), (8, .v (.int .i64 i))] (fun l => tm = l) := htm
    conv at htm => whnf
    subst htm
    replace hhp_ : hp = [Ent.row o 58 [.int .i64, .bool] ((L ++ post).map orow), .cells 3 [.v (.int .i64 id)]] := hhp_
    subst hhp_
    repeat ((conv => whnf); (first | refine Cnd.yes ?_ | refine Cnd.no ?_ | refine And.intro rfl ?_ | refine And.intro (by omega) ?_ | (refine And.intro ?_ ?_; focus (simp only [IntKind.wrap_i64, IntKind.wrap_u64, IntKind.wrap_u32]; omega)) | (refine And.intro ?_ ?_; focus (simp only [zl1, zl2, zl3, zl4, zl5, zl6, zl7, zl8, zl9] <;> omega)) | (refine Cnd.tt ?_ ?_; focus (first | (apply decide_eq_true; omega) | (simp only [zq1, zq2, zq3, zq4, zq5, zq6, zq7, zq8, zq9, zq10, zq11, zq12] <;> omega) | rfl)) | (refine Cnd.ff ?_ ?_; focus (first | (apply decide_eq_false; omega) | (simp only [zq1, zq2, zq3, zq4, zq5, zq6, zq7, zq8, zq9, zq10, zq11, zq12] <;> omega) | rfl))))
    conv => whnf
    refine Cnd.mk (fun hlt => ?_) fun hge => ?_
    · have hin : i < L.length := by have := of_decide_eq_true hlt; omega
      have e0 := cellO (post := post) hin
      repeat ((conv => whnf); (first | refine Cnd.yes ?_ | refine Cnd.no ?_ | refine And.intro rfl ?_ | refine And.intro (by omega) ?_ | (refine And.intro ?_ ?_; focus (simp only [IntKind.wrap_i64, IntKind.wrap_u64, IntKind.wrap_u32]; omega)) | (refine And.intro ?_ ?_; focus (simp only [zl1, zl2, zl3, zl4, zl5, zl6, zl7, zl8, zl9] <;> omega)) | (refine Cnd.tt ?_ ?_; focus (first | (apply decide_eq_true; omega) | (simp only [zq1, zq2, zq3, zq4, zq5, zq6, zq7, zq8, zq9, zq10, zq11, zq12] <;> omega) | rfl)) | (refine Cnd.ff ?_ ?_; focus (first | (apply decide_eq_false; omega) | (simp only [zq1, zq2, zq3, zq4, zq5, zq6, zq7, zq8, zq9, zq10, zq11, zq12] <;> omega) | rfl))))
      conv => whnf
      rw [e0]
      by_cases h : (L.getD i (0, false)).1 = id
      · repeat ((conv => whnf); (first | refine Cnd.yes ?_ | refine Cnd.no ?_ | refine And.intro rfl ?_ | refine And.intro (by omega) ?_ | (refine And.intro ?_ ?_; focus (simp only [IntKind.wrap_i64, IntKind.wrap_u64, IntKind.wrap_u32]; omega)) | (refine And.intro ?_ ?_; focus (simp only [zl1, zl2, zl3, zl4, zl5, zl6, zl7, zl8, zl9] <;> omega)) | (refine Cnd.tt ?_ ?_; focus (first | (apply decide_eq_true; omega) | (simp only [zq1, zq2, zq3, zq4, zq5, zq6, zq7, zq8, zq9, zq10, zq11, zq12] <;> omega) | rfl)) | (refine Cnd.ff ?_ ?_; focus (first | (apply decide_eq_false; omega) | (simp only [zq1, zq2, zq3, zq4, zq5, zq6, zq7, zq8, zq9, zq10, zq11, zq12] <;> omega) | rfl))))
        conv => whnf
        refine ⟨[0, 1], .v (.int .i64 i), [.row o 58 [.int .i64, .bool] ((L ++ post).map orow), .cells 3 [.v (.int .i64 id)]], ?_⟩
        repeat ((conv => whnf); (first | refine Cnd.yes ?_ | refine Cnd.no ?_ | refine And.intro rfl ?_ | refine And.intro (by omega) ?_ | (refine And.intro ?_ ?_; focus (simp only [IntKind.wrap_i64, IntKind.wrap_u64, IntKind.wrap_u32]; omega)) | (refine And.intro ?_ ?_; focus (simp only [zl1, zl2, zl3, zl4, zl5, zl6, zl7, zl8, zl9] <;> omega))))
        conv => whnf
        exact hK _ (.inr ⟨i, hin, rfl, h, hall⟩)
      · repeat ((conv => whnf); (first | refine Cnd.yes ?_ | refine Cnd.no ?_ | refine And.intro rfl ?_ | refine And.intro (by omega) ?_ | (refine And.intro ?_ ?_; focus (simp only [IntKind.wrap_i64, IntKind.wrap_u64, IntKind.wrap_u32]; omega)) | (refine And.intro ?_ ?_; focus (simp only [zl1, zl2, zl3, zl4, zl5, zl6, zl7, zl8, zl9] <;> omega)) | (refine Cnd.tt ?_ ?_; focus (first | (apply decide_eq_true; omega) | (simp only [zq1, zq2, zq3, zq4, zq5, zq6, zq7, zq8, zq9, zq10, zq11, zq12] <;> omega) | rfl)) | (refine Cnd.ff ?_ ?_; focus (first | (apply decide_eq_false; omega) | (simp only [zq1, zq2, zq3, zq4, zq5, zq6, zq7, zq8, zq9, zq10, zq11, zq12] <;> omega) | rfl))))
        conv => whnf
        (refine ⟨(fun s : Nat => L.length - s) ((i + 1)), [0, 1], tmk 19 0 ((fun s : Nat => [(0, .slc 0 2 0 L.length), (1, .fn (.func 26) [] [.ptr 1 0 0 0]), (7, .v (.int .i64 L.length)), (8, .v (.int .i64 s))]) ((i + 1))), (fun s : Nat => [Ent.row o 58 [.int .i64, .bool] ((L ++ post).map orow), .cells 3 [.v (.int .i64 id)]]) ((i + 1)), ?_, ?_⟩; focus (first | (simp only []; omega) | omega))
        repeat ((conv => whnf); (first | refine Cnd.yes ?_ | refine Cnd.no ?_ | refine And.intro rfl ?_ | refine And.intro (by omega) ?_ | (refine And.intro ?_ ?_; focus (simp only [IntKind.wrap_i64, IntKind.wrap_u64, IntKind.wrap_u32]; omega)) | (refine And.intro ?_ ?_; focus (simp only [zl1, zl2, zl3, zl4, zl5, zl6, zl7, zl8, zl9] <;> omega))))
        conv => whnf
        exact ⟨i + 1, ⟨hin, fun j hj => by rcases Nat.lt_succ_iff_lt_or_eq.1 hj with h1 | h1; exact hall j h1; rw [h1]; exact h⟩, rfl, rfl, (tmkK_eq _ _ _ _).mpr rfl, rfl⟩
    · have hin : i = L.length := by have := of_decide_eq_false hge; omega
      repeat ((conv => whnf); (first | refine Cnd.yes ?_ | refine Cnd.no ?_ | refine And.intro rfl ?_ | refine And.intro (by omega) ?_ | (refine And.intro ?_ ?_; focus (simp only [IntKind.wrap_i64, IntKind.wrap_u64, IntKind.wrap_u32]; omega)) | (refine And.intro ?_ ?_; focus (simp only [zl1, zl2, zl3, zl4, zl5, zl6, zl7, zl8, zl9] <;> omega)) | (refine Cnd.tt ?_ ?_; focus (first | (apply decide_eq_true; omega) | (simp only [zq1, zq2, zq3, zq4, zq5, zq6, zq7, zq8, zq9, zq10, zq11, zq12] <;> omega) | rfl)) | (refine Cnd.ff ?_ ?_; focus (first | (apply decide_eq_false; omega) | (simp only [zq1, zq2, zq3, zq4, zq5, zq6, zq7, zq8, zq9, zq10, zq11, zq12] <;> omega) | rfl))))
      conv => whnf
      refine ⟨[0, 1], .v (.int .i64 (-1)), [.row o 58 [.int .i64, .bool] ((L ++ post).map orow), .cells 3 [.v (.int .i64 id)]], ?_⟩
      repeat ((conv => whnf); (first | refine Cnd.yes ?_ | refine Cnd.no ?_ | refine And.intro rfl ?_ | refine And.intro (by omega) ?_ | (refine And.intro ?_ ?_; focus (simp only [IntKind.wrap_i64, IntKind.wrap_u64, IntKind.wrap_u32]; omega)) | (refine And.intro ?_ ?_; focus (simp only [zl1, zl2, zl3, zl4, zl5, zl6, zl7, zl8, zl9] <;> omega))))
      conv => whnf
      exact hK _ (.inl ⟨rfl, hin ▸ hall⟩)
def idxS : Vc.Spec := fun args hp _ K => ∃ (o : Bool) (id : Int) (L post : List (Int × Bool)), args = [.slc 0 2 0 L.length, .fn (.func 26) [] [.ptr 1 0 0 0]] ∧ hp = [.row o 58 [.int .i64, .bool] ((L ++ post).map orow), .cells 3 [.v (.int .i64 id)]] ∧ L.length ≤ 1000 ∧
  ∀ k, IxOK id L k → K (.v (.int .i64 k)) [.row o 58 [.int .i64, .bool] ((L ++ post).map orow), .cells 3 [.v (.int .i64 id)]]
theorem idx_ok : SOK Tryd.prog 25 idxS := by
  refine TOK.weaken (TOK.out (runF_eq G0_ok mixed at25.1 at25.2 pf25_eq)) fun args hp M K h => ?_
  obtain ⟨o, id, L, post, rfl, rfl, h1, h2⟩ := h
  exact idx_run M K o id L post h1 h2
noncomputable def specsE : Nat → Option Vc.Trans := tget [(25, frameT idxS)]
noncomputable def GE : Nat → Option Vc.Trans := tabG specsE (tget tab) 5
theorem GE_ok : GOK Tryd.prog GE := tabG_ok (GOK.cons (frame_ok idx_ok) .nil) tab_ok 5
theorem back31 : IsBack Tryd.prog 31 (some 2) := IsBack.of at31 pf31_eq rfl
theorem back13 : ∀ g s, lookB g (bkOf (pl13 999999)) = some s → IsBack Tryd.prog g s := by
  intro g s h
  by_cases hg : g = 31
  · subst hg
    have : s = some 2 := by
      have h2 : lookB 31 (bkOf (pl13 999999)) = some (some 2) := rfl
      rw [h2] at h
      cases h
      rfl
    rw [this]
    exact back31
  · exfalso
    have h2 : bkOf (pl13 999999) = [(31, some 2)] := rfl
    rw [h2] at h
    unfold lookB at h
    split at h
    · rename_i hb; exact hg (Nat.eq_of_beq_eq_true hb)
    · cases h
/-- What goes: from the m-th on, the last first. -/
def cutOut (L : List (Int × Bool)) (m : Nat) : List Int := ((L.drop m).map (·.1)).reverse
theorem cutOut_len (L : List (Int × Bool)) (m : Nat) : (cutOut L m).length = L.length - m := by simp [cutOut]
theorem cutOut_next {L : List (Int × Bool)} {m : Nat} (h : m < L.length) : cutOut L m = cutOut L (m + 1) ++ [(L.getD m (0, false)).1] := by
  unfold cutOut
  rw [List.drop_eq_getElem_cons h, List.map_cons, List.reverse_cons]
  simp [List.getD, h]
theorem cut_run (M : HL) (K : SV → List Ent → HL → Prop) (n nx id k : Int) (L post : List (Int × Bool)) (hl : L.length ≤ 1000) (m : Nat) (hm : m ≤ L.length) (hk : k + 1 = m) (hnot : ¬ (k < 0 ∧ id ≠ -1)) (hix : ∀ k', IxOK id L k' → k' = k)
    (hK : K (.slc 2 1 0 (L.length - m)) [.cells 56 [.v (.int .i64 n), .v (.int .i64 nx), .slc 1 2 0 m], .row true 58 [.int .i64, .bool] ((L ++ post).map orow), .row true 3 [.int .i64] ((cutOut L m).map irow)] M) :
    runF GE pf13 [.ptr 0 0 0 0, .v (.int .i64 id)] (robHp true n nx L post) M fun v hp2 M2 => ∃ m v' hp', Wk (llen (robHp true n nx L post)) m [v] hp2 [v'] hp' (K v' hp' M2) := by
  have e1 : IntKind.i64.wrap (k + 1) = (m : Int) := by rw [IntKind.wrap_i64]; omega
  repeat ((conv => whnf); (first | refine Cnd.yes ?_ | refine Cnd.no ?_ | refine And.intro rfl ?_ | refine And.intro (by omega) ?_ | (refine And.intro ?_ ?_; focus (simp only [IntKind.wrap_i64, IntKind.wrap_u64, IntKind.wrap_u32]; omega)) | (refine And.intro ?_ ?_; focus (simp only [zl1, zl2, zl3, zl4, zl5, zl6, zl7, zl8, zl9] <;> omega)) | (refine Cnd.tt ?_ ?_; focus (first | (apply decide_eq_true; omega) | (simp only [zq1, zq2, zq3, zq4, zq5, zq6, zq7, zq8, zq9, zq10, zq11, zq12] <;> omega) | rfl)) | (refine Cnd.ff ?_ ?_; focus (first | (apply decide_eq_false; omega) | (simp only [zq1, zq2, zq3, zq4, zq5, zq6, zq7, zq8, zq9, zq10, zq11, zq12] <;> omega) | rfl))))
  conv => whnf
  refine ⟨true, id, L, post, rfl, rfl, hl, fun k' hk' => ?_⟩
  obtain rfl := hix k' hk'
  clear hk' hix
  by_cases h1 : k' < 0
  · have h2 : id = -1 := by
      by_cases h2 : id = -1
      · exact h2
      · exact absurd ⟨h1, h2⟩ hnot
    subst h2
    repeat ((conv => whnf); (first | refine Cnd.yes ?_ | refine Cnd.no ?_ | refine And.intro rfl ?_ | refine And.intro (by omega) ?_ | (refine And.intro ?_ ?_; focus (simp only [IntKind.wrap_i64, IntKind.wrap_u64, IntKind.wrap_u32]; omega)) | (refine And.intro ?_ ?_; focus (simp only [zl1, zl2, zl3, zl4, zl5, zl6, zl7, zl8, zl9] <;> omega)) | (refine Cnd.tt ?_ ?_; focus (first | (apply decide_eq_true; omega) | (simp only [zq1, zq2, zq3, zq4, zq5, zq6, zq7, zq8, zq9, zq10, zq11, zq12] <;> omega) | rfl)) | (refine Cnd.ff ?_ ?_; focus (first | (apply decide_eq_false; omega) | (simp only [zq1, zq2, zq3, zq4, zq5, zq6, zq7, zq8, zq9, zq10, zq11, zq12] <;> omega) | rfl))))
    conv => whnf
    rw [e1]
    repeat ((conv => whnf); (first | refine Cnd.yes ?_ | refine Cnd.no ?_ | refine And.intro rfl ?_ | refine And.intro (by omega) ?_ | (refine And.intro ?_ ?_; focus (simp only [IntKind.wrap_i64, IntKind.wrap_u64, IntKind.wrap_u32]; omega)) | (refine And.intro ?_ ?_; focus (simp only [zl1, zl2, zl3, zl4, zl5, zl6, zl7, zl8, zl9] <;> omega)) | (refine Cnd.tt ?_ ?_; focus (first | (apply decide_eq_true; omega) | (simp only [zq1, zq2, zq3, zq4, zq5, zq6, zq7, zq8, zq9, zq10, zq11, zq12] <;> omega) | rfl)) | (refine Cnd.ff ?_ ?_; focus (first | (apply decide_eq_false; omega) | (simp only [zq1, zq2, zq3, zq4, zq5, zq6, zq7, zq8, zq9, zq10, zq11, zq12] <;> omega) | rfl))))
    conv => whnf
    refine ⟨fun c tm hp M' => c ≤ L.length - m ∧ M' = M ∧ tmkK 47 0 [(0, .ptr 0 0 0 0), (5, .v (.int .i64 k')), (6, .ptr 2 0 0 0)] (fun l => tm = l) ∧ hp = [.cells 56 [.v (.int .i64 n), .v (.int .i64 nx), .slc 1 2 0 L.length], .row true 58 [.int .i64, .bool] ((L ++ post).map orow), .cells 22 [.slc 3 1 0 (L.length - (m + c))], .row true 3 [.int .i64] ((cutOut L (m + c)).map irow)],
      54, 1, 2, _, _, true, 58, _, _, 29, 30, rfl, rfl, (show 1 < 2 by omega), rfl, rfl, (by omega), ⟨[0, 1, 3, 99], tmk 47 0 [(0, .ptr 0 0 0 0), (5, .v (.int .i64 k')), (6, .ptr 2 0 0 0)], [.cells 56 [.v (.int .i64 n), .v (.int .i64 nx), .slc 1 2 0 L.length], .row true 58 [.int .i64, .bool] ((L ++ post).map orow), .cells 22 [.slc 3 1 0 0], .row true 3 [.int .i64] []], ?_⟩, fun c hc tm1 hp1 M1 hI => ?_, fun tm1 hp1 M1 hI => ?_⟩
    · repeat ((conv => whnf); (first | refine Cnd.yes ?_ | refine Cnd.no ?_ | refine And.intro rfl ?_ | refine And.intro (by omega) ?_ | (refine And.intro ?_ ?_; focus (simp only [IntKind.wrap_i64, IntKind.wrap_u64, IntKind.wrap_u32]; omega)) | (refine And.intro ?_ ?_; focus (simp only [zl1, zl2, zl3, zl4, zl5, zl6, zl7, zl8, zl9] <;> omega))))
      conv => whnf
      have h5 : m + ((L.length : Int).toNat - (m : Int).toNat) = L.length := by omega
      rw [h5, Nat.sub_self]
      simp [cutOut]
    · obtain ⟨hc1, rfl, htm, rfl⟩ := hI
      conv at htm => whnf
      subst htm
      have hmc : m + c < L.length := by omega
      have ec : toI (cellAt ((L ++ post).map orow) (0 + (m : Int).toNat + c) 0) = (L.getD (m + c) (0, false)).1 := by
        rw [Nat.zero_add, Int.toNat_natCast]
        exact cellI hmc
      have l1 := cutOut_len L (m + (c + 1))
      have n1 : List.take (L.length - (m + (c + 1))) (List.drop 0 ((cutOut L (m + (c + 1))).map irow)) ++ List.take 1 (List.drop 0 [irow (L.getD (m + c) (0, false)).1]) = (cutOut L (m + c)).map irow := by
        rw [List.drop_zero, List.take_of_length_le (by rw [List.length_map, l1]; exact Nat.le_refl _), cutOut_next hmc, List.map_append]; rfl
      refine ⟨rfl, ?_⟩
      repeat ((conv => whnf); (first | refine Cnd.yes ?_ | refine Cnd.no ?_ | refine And.intro rfl ?_ | refine And.intro (by omega) ?_ | (refine And.intro ?_ ?_; focus (simp only [IntKind.wrap_i64, IntKind.wrap_u64, IntKind.wrap_u32]; omega)) | (refine And.intro ?_ ?_; focus (simp only [zl1, zl2, zl3, zl4, zl5, zl6, zl7, zl8, zl9] <;> omega)) | (refine Cnd.tt ?_ ?_; focus (first | (apply decide_eq_true; omega) | (simp only [zq1, zq2, zq3, zq4, zq5, zq6, zq7, zq8, zq9, zq10, zq11, zq12] <;> omega) | rfl)) | (refine Cnd.ff ?_ ?_; focus (first | (apply decide_eq_false; omega) | (simp only [zq1, zq2, zq3, zq4, zq5, zq6, zq7, zq8, zq9, zq10, zq11, zq12] <;> omega) | rfl))))
      conv => whnf
      rw [ec]
      repeat ((conv => whnf); (first | refine Cnd.yes ?_ | refine Cnd.no ?_ | refine And.intro rfl ?_ | refine And.intro (by omega) ?_ | (refine And.intro ?_ ?_; focus (simp only [IntKind.wrap_i64, IntKind.wrap_u64, IntKind.wrap_u32]; omega)) | (refine And.intro ?_ ?_; focus (simp only [zl1, zl2, zl3, zl4, zl5, zl6, zl7, zl8, zl9] <;> omega)) | (refine Cnd.tt ?_ ?_; focus (first | (apply decide_eq_true; omega) | (simp only [zq1, zq2, zq3, zq4, zq5, zq6, zq7, zq8, zq9, zq10, zq11, zq12] <;> omega) | rfl)) | (refine Cnd.ff ?_ ?_; focus (first | (apply decide_eq_false; omega) | (simp only [zq1, zq2, zq3, zq4, zq5, zq6, zq7, zq8, zq9, zq10, zq11, zq12] <;> omega) | rfl))))
      conv => whnf
      refine ⟨[0, 1, 2, 6], tmk 47 0 [(0, .ptr 0 0 0 0), (5, .v (.int .i64 k')), (6, .ptr 2 0 0 0)], [.cells 56 [.v (.int .i64 n), .v (.int .i64 nx), .slc 1 2 0 L.length], .row true 58 [.int .i64, .bool] ((L ++ post).map orow), .cells 22 [.slc 3 1 0 (L.length - (m + c))], .row true 3 [.int .i64] ((cutOut L (m + c)).map irow)], ?_⟩
      repeat ((conv => whnf); (first | refine Cnd.yes ?_ | refine Cnd.no ?_ | refine And.intro rfl ?_ | refine And.intro (by omega) ?_ | (refine And.intro ?_ ?_; focus (simp only [IntKind.wrap_i64, IntKind.wrap_u64, IntKind.wrap_u32]; omega)) | (refine And.intro ?_ ?_; focus (simp only [zl1, zl2, zl3, zl4, zl5, zl6, zl7, zl8, zl9] <;> omega))))
      conv => whnf
      exact ⟨n1, by omega, rfl, (tmkK_eq _ _ _ _).mpr rfl, rfl⟩
    · obtain ⟨hc1, rfl, htm, rfl⟩ := hI
      conv at htm => whnf
      subst htm
      repeat ((conv => whnf); (first | refine Cnd.yes ?_ | refine Cnd.no ?_ | refine And.intro rfl ?_ | refine And.intro (by omega) ?_ | (refine And.intro ?_ ?_; focus (simp only [IntKind.wrap_i64, IntKind.wrap_u64, IntKind.wrap_u32]; omega)) | (refine And.intro ?_ ?_; focus (simp only [zl1, zl2, zl3, zl4, zl5, zl6, zl7, zl8, zl9] <;> omega)) | (refine Cnd.tt ?_ ?_; focus (first | (apply decide_eq_true; omega) | (simp only [zq1, zq2, zq3, zq4, zq5, zq6, zq7, zq8, zq9, zq10, zq11, zq12] <;> omega) | rfl)) | (refine Cnd.ff ?_ ?_; focus (first | (apply decide_eq_false; omega) | (simp only [zq1, zq2, zq3, zq4, zq5, zq6, zq7, zq8, zq9, zq10, zq11, zq12] <;> omega) | rfl))))
      conv => whnf
      rw [e1]
      repeat ((conv => whnf); (first | refine Cnd.yes ?_ | refine Cnd.no ?_ | refine And.intro rfl ?_ | refine And.intro (by omega) ?_ | (refine And.intro ?_ ?_; focus (simp only [IntKind.wrap_i64, IntKind.wrap_u64, IntKind.wrap_u32]; omega)) | (refine And.intro ?_ ?_; focus (simp only [zl1, zl2, zl3, zl4, zl5, zl6, zl7, zl8, zl9] <;> omega)) | (refine Cnd.tt ?_ ?_; focus (first | (apply decide_eq_true; omega) | (simp only [zq1, zq2, zq3, zq4, zq5, zq6, zq7, zq8, zq9, zq10, zq11, zq12] <;> omega) | rfl)) | (refine Cnd.ff ?_ ?_; focus (first | (apply decide_eq_false; omega) | (simp only [zq1, zq2, zq3, zq4, zq5, zq6, zq7, zq8, zq9, zq10, zq11, zq12] <;> omega) | rfl))))
      conv => whnf
      refine ⟨[0, 1, 3], .slc 2 1 0 (L.length - m), [.cells 56 [.v (.int .i64 n), .v (.int .i64 nx), .slc 1 2 0 m], .row true 58 [.int .i64, .bool] ((L ++ post).map orow), .row true 3 [.int .i64] ((cutOut L m).map irow)], ?_⟩
      repeat ((conv => whnf); (first | refine Cnd.yes ?_ | refine Cnd.no ?_ | refine And.intro rfl ?_ | refine And.intro (by omega) ?_ | (refine And.intro ?_ ?_; focus (simp only [IntKind.wrap_i64, IntKind.wrap_u64, IntKind.wrap_u32]; omega)) | (refine And.intro ?_ ?_; focus (simp only [zl1, zl2, zl3, zl4, zl5, zl6, zl7, zl8, zl9] <;> omega))))
      conv => whnf
      exact hK
  · repeat ((conv => whnf); (first | refine Cnd.yes ?_ | refine Cnd.no ?_ | refine And.intro rfl ?_ | refine And.intro (by omega) ?_ | (refine And.intro ?_ ?_; focus (simp only [IntKind.wrap_i64, IntKind.wrap_u64, IntKind.wrap_u32]; omega)) | (refine And.intro ?_ ?_; focus (simp only [zl1, zl2, zl3, zl4, zl5, zl6, zl7, zl8, zl9] <;> omega)) | (refine Cnd.tt ?_ ?_; focus (first | (apply decide_eq_true; omega) | (simp only [zq1, zq2, zq3, zq4, zq5, zq6, zq7, zq8, zq9, zq10, zq11, zq12] <;> omega) | rfl)) | (refine Cnd.ff ?_ ?_; focus (first | (apply decide_eq_false; omega) | (simp only [zq1, zq2, zq3, zq4, zq5, zq6, zq7, zq8, zq9, zq10, zq11, zq12] <;> omega) | rfl))))
    conv => whnf
    rw [e1]
    repeat ((conv => whnf); (first | refine Cnd.yes ?_ | refine Cnd.no ?_ | refine And.intro rfl ?_ | refine And.intro (by omega) ?_ | (refine And.intro ?_ ?_; focus (simp only [IntKind.wrap_i64, IntKind.wrap_u64, IntKind.wrap_u32]; omega)) | (refine And.intro ?_ ?_; focus (simp only [zl1, zl2, zl3, zl4, zl5, zl6, zl7, zl8, zl9] <;> omega)) | (refine Cnd.tt ?_ ?_; focus (first | (apply decide_eq_true; omega) | (simp only [zq1, zq2, zq3, zq4, zq5, zq6, zq7, zq8, zq9, zq10, zq11, zq12] <;> omega) | rfl)) | (refine Cnd.ff ?_ ?_; focus (first | (apply decide_eq_false; omega) | (simp only [zq1, zq2, zq3, zq4, zq5, zq6, zq7, zq8, zq9, zq10, zq11, zq12] <;> omega) | rfl))))
    conv => whnf
    refine ⟨fun c tm hp M' => c ≤ L.length - m ∧ M' = M ∧ tmkK 47 0 [(0, .ptr 0 0 0 0), (5, .v (.int .i64 k')), (6, .ptr 2 0 0 0)] (fun l => tm = l) ∧ hp = [.cells 56 [.v (.int .i64 n), .v (.int .i64 nx), .slc 1 2 0 L.length], .row true 58 [.int .i64, .bool] ((L ++ post).map orow), .cells 22 [.slc 3 1 0 (L.length - (m + c))], .row true 3 [.int .i64] ((cutOut L (m + c)).map irow)],
      54, 1, 2, _, _, true, 58, _, _, 29, 30, rfl, rfl, (show 1 < 2 by omega), rfl, rfl, (by omega), ⟨[0, 1, 3, 99], tmk 47 0 [(0, .ptr 0 0 0 0), (5, .v (.int .i64 k')), (6, .ptr 2 0 0 0)], [.cells 56 [.v (.int .i64 n), .v (.int .i64 nx), .slc 1 2 0 L.length], .row true 58 [.int .i64, .bool] ((L ++ post).map orow), .cells 22 [.slc 3 1 0 0], .row true 3 [.int .i64] []], ?_⟩, fun c hc tm1 hp1 M1 hI => ?_, fun tm1 hp1 M1 hI => ?_⟩
    · repeat ((conv => whnf); (first | refine Cnd.yes ?_ | refine Cnd.no ?_ | refine And.intro rfl ?_ | refine And.intro (by omega) ?_ | (refine And.intro ?_ ?_; focus (simp only [IntKind.wrap_i64, IntKind.wrap_u64, IntKind.wrap_u32]; omega)) | (refine And.intro ?_ ?_; focus (simp only [zl1, zl2, zl3, zl4, zl5, zl6, zl7, zl8, zl9] <;> omega))))
      conv => whnf
      have h5 : m + ((L.length : Int).toNat - (m : Int).toNat) = L.length := by omega
      rw [h5, Nat.sub_self]
      simp [cutOut]
    · obtain ⟨hc1, rfl, htm, rfl⟩ := hI
      conv at htm => whnf
      subst htm
      have hmc : m + c < L.length := by omega
      have ec : toI (cellAt ((L ++ post).map orow) (0 + (m : Int).toNat + c) 0) = (L.getD (m + c) (0, false)).1 := by
        rw [Nat.zero_add, Int.toNat_natCast]
        exact cellI hmc
      have l1 := cutOut_len L (m + (c + 1))
      have n1 : List.take (L.length - (m + (c + 1))) (List.drop 0 ((cutOut L (m + (c + 1))).map irow)) ++ List.take 1 (List.drop 0 [irow (L.getD (m + c) (0, false)).1]) = (cutOut L (m + c)).map irow := by
        rw [List.drop_zero, List.take_of_length_le (by rw [List.length_map, l1]; exact Nat.le_refl _), cutOut_next hmc, List.map_append]; rfl
      refine ⟨rfl, ?_⟩
      repeat ((conv => whnf); (first | refine Cnd.yes ?_ | refine Cnd.no ?_ | refine And.intro rfl ?_ | refine And.intro (by omega) ?_ | (refine And.intro ?_ ?_; focus (simp only [IntKind.wrap_i64, IntKind.wrap_u64, IntKind.wrap_u32]; omega)) | (refine And.intro ?_ ?_; focus (simp only [zl1, zl2, zl3, zl4, zl5, zl6, zl7, zl8, zl9] <;> omega)) | (refine Cnd.tt ?_ ?_; focus (first | (apply decide_eq_true; omega) | (simp only [zq1, zq2, zq3, zq4, zq5, zq6, zq7, zq8, zq9, zq10, zq11, zq12] <;> omega) | rfl)) | (refine Cnd.ff ?_ ?_; focus (first | (apply decide_eq_false; omega) | (simp only [zq1, zq2, zq3, zq4, zq5, zq6, zq7, zq8, zq9, zq10, zq11, zq12] <;> omega) | rfl))))
      conv => whnf
      rw [ec]
      repeat ((conv => whnf); (first | refine Cnd.yes ?_ | refine Cnd.no ?_ | refine And.intro rfl ?_ | refine And.intro (by omega) ?_ | (refine And.intro ?_ ?_; focus (simp only [IntKind.wrap_i64, IntKind.wrap_u64, IntKind.wrap_u32]; omega)) | (refine And.intro ?_ ?_; focus (simp only [zl1, zl2, zl3, zl4, zl5, zl6, zl7, zl8, zl9] <;> omega)) | (refine Cnd.tt ?_ ?_; focus (first | (apply decide_eq_true; omega) | (simp only [zq1, zq2, zq3, zq4, zq5, zq6, zq7, zq8, zq9, zq10, zq11, zq12] <;> omega) | rfl)) | (refine Cnd.ff ?_ ?_; focus (first | (apply decide_eq_false; omega) | (simp only [zq1, zq2, zq3, zq4, zq5, zq6, zq7, zq8, zq9, zq10, zq11, zq12] <;> omega) | rfl))))
      conv => whnf
      refine ⟨[0, 1, 2, 6], tmk 47 0 [(0, .ptr 0 0 0 0), (5, .v (.int .i64 k')), (6, .ptr 2 0 0 0)], [.cells 56 [.v (.int .i64 n), .v (.int .i64 nx), .slc 1 2 0 L.length], .row true 58 [.int .i64, .bool] ((L ++ post).map orow), .cells 22 [.slc 3 1 0 (L.length - (m + c))], .row true 3 [.int .i64] ((cutOut L (m + c)).map irow)], ?_⟩
      repeat ((conv => whnf); (first | refine Cnd.yes ?_ | refine Cnd.no ?_ | refine And.intro rfl ?_ | refine And.intro (by omega) ?_ | (refine And.intro ?_ ?_; focus (simp only [IntKind.wrap_i64, IntKind.wrap_u64, IntKind.wrap_u32]; omega)) | (refine And.intro ?_ ?_; focus (simp only [zl1, zl2, zl3, zl4, zl5, zl6, zl7, zl8, zl9] <;> omega))))
      conv => whnf
      exact ⟨n1, by omega, rfl, (tmkK_eq _ _ _ _).mpr rfl, rfl⟩
    · obtain ⟨hc1, rfl, htm, rfl⟩ := hI
      conv at htm => whnf
      subst htm
      repeat ((conv => whnf); (first | refine Cnd.yes ?_ | refine Cnd.no ?_ | refine And.intro rfl ?_ | refine And.intro (by omega) ?_ | (refine And.intro ?_ ?_; focus (simp only [IntKind.wrap_i64, IntKind.wrap_u64, IntKind.wrap_u32]; omega)) | (refine And.intro ?_ ?_; focus (simp only [zl1, zl2, zl3, zl4, zl5, zl6, zl7, zl8, zl9] <;> omega)) | (refine Cnd.tt ?_ ?_; focus (first | (apply decide_eq_true; omega) | (simp only [zq1, zq2, zq3, zq4, zq5, zq6, zq7, zq8, zq9, zq10, zq11, zq12] <;> omega) | rfl)) | (refine Cnd.ff ?_ ?_; focus (first | (apply decide_eq_false; omega) | (simp only [zq1, zq2, zq3, zq4, zq5, zq6, zq7, zq8, zq9, zq10, zq11, zq12] <;> omega) | rfl))))
      conv => whnf
      rw [e1]
      repeat ((conv => whnf); (first | refine Cnd.yes ?_ | refine Cnd.no ?_ | refine And.intro rfl ?_ | refine And.intro (by omega) ?_ | (refine And.intro ?_ ?_; focus (simp only [IntKind.wrap_i64, IntKind.wrap_u64, IntKind.wrap_u32]; omega)) | (refine And.intro ?_ ?_; focus (simp only [zl1, zl2, zl3, zl4, zl5, zl6, zl7, zl8, zl9] <;> omega)) | (refine Cnd.tt ?_ ?_; focus (first | (apply decide_eq_true; omega) | (simp only [zq1, zq2, zq3, zq4, zq5, zq6, zq7, zq8, zq9, zq10, zq11, zq12] <;> omega) | rfl)) | (refine Cnd.ff ?_ ?_; focus (first | (apply decide_eq_false; omega) | (simp only [zq1, zq2, zq3, zq4, zq5, zq6, zq7, zq8, zq9, zq10, zq11, zq12] <;> omega) | rfl))))
      conv => whnf
      refine ⟨[0, 1, 3], .slc 2 1 0 (L.length - m), [.cells 56 [.v (.int .i64 n), .v (.int .i64 nx), .slc 1 2 0 m], .row true 58 [.int .i64, .bool] ((L ++ post).map orow), .row true 3 [.int .i64] ((cutOut L m).map irow)], ?_⟩
      repeat ((conv => whnf); (first | refine Cnd.yes ?_ | refine Cnd.no ?_ | refine And.intro rfl ?_ | refine And.intro (by omega) ?_ | (refine And.intro ?_ ?_; focus (simp only [IntKind.wrap_i64, IntKind.wrap_u64, IntKind.wrap_u32]; omega)) | (refine And.intro ?_ ?_; focus (simp only [zl1, zl2, zl3, zl4, zl5, zl6, zl7, zl8, zl9] <;> omega))))
      conv => whnf
      exact hK
theorem cutno_run (M : HL) (K : SV → List Ent → HL → Prop) (n nx id : Int) (L post : List (Int × Bool)) (hl : L.length ≤ 1000) (hid : id ≠ -1) (hix : ∀ k', IxOK id L k' → k' = -1)
    (hK : K (.v (.slice none 0 0)) (robHp true n nx L post) M) :
    runF GE pf13 [.ptr 0 0 0 0, .v (.int .i64 id)] (robHp true n nx L post) M fun v hp2 M2 => ∃ m v' hp', Wk (llen (robHp true n nx L post)) m [v] hp2 [v'] hp' (K v' hp' M2) := by
  repeat ((conv => whnf); (first | refine Cnd.yes ?_ | refine Cnd.no ?_ | refine And.intro rfl ?_ | refine And.intro (by omega) ?_ | (refine And.intro ?_ ?_; focus (simp only [IntKind.wrap_i64, IntKind.wrap_u64, IntKind.wrap_u32]; omega)) | (refine And.intro ?_ ?_; focus (simp only [zl1, zl2, zl3, zl4, zl5, zl6, zl7, zl8, zl9] <;> omega)) | (refine Cnd.tt ?_ ?_; focus (first | (apply decide_eq_true; omega) | (simp only [zq1, zq2, zq3, zq4, zq5, zq6, zq7, zq8, zq9, zq10, zq11, zq12] <;> omega) | rfl)) | (refine Cnd.ff ?_ ?_; focus (first | (apply decide_eq_false; omega) | (simp only [zq1, zq2, zq3, zq4, zq5, zq6, zq7, zq8, zq9, zq10, zq11, zq12] <;> omega) | rfl))))
  conv => whnf
  refine ⟨true, id, L, post, rfl, rfl, hl, fun k' hk' => ?_⟩
  obtain rfl := hix k' hk'
  repeat ((conv => whnf); (first | refine Cnd.yes ?_ | refine Cnd.no ?_ | refine And.intro rfl ?_ | refine And.intro (by omega) ?_ | (refine And.intro ?_ ?_; focus (simp only [IntKind.wrap_i64, IntKind.wrap_u64, IntKind.wrap_u32]; omega)) | (refine And.intro ?_ ?_; focus (simp only [zl1, zl2, zl3, zl4, zl5, zl6, zl7, zl8, zl9] <;> omega)) | (refine Cnd.tt ?_ ?_; focus (first | (apply decide_eq_true; omega) | (simp only [zq1, zq2, zq3, zq4, zq5, zq6, zq7, zq8, zq9, zq10, zq11, zq12] <;> omega) | rfl)) | (refine Cnd.ff ?_ ?_; focus (first | (apply decide_eq_false; omega) | (simp only [zq1, zq2, zq3, zq4, zq5, zq6, zq7, zq8, zq9, zq10, zq11, zq12] <;> omega) | rfl))))
  conv => whnf
  refine ⟨[0, 1], .v (.slice none 0 0), robHp true n nx L post, ?_⟩
  repeat ((conv => whnf); (first | refine Cnd.yes ?_ | refine Cnd.no ?_ | refine And.intro rfl ?_ | refine And.intro (by omega) ?_ | (refine And.intro ?_ ?_; focus (simp only [IntKind.wrap_i64, IntKind.wrap_u64, IntKind.wrap_u32]; omega)) | (refine And.intro ?_ ?_; focus (simp only [zl1, zl2, zl3, zl4, zl5, zl6, zl7, zl8, zl9] <;> omega))))
  conv => whnf
  exact hK
/-- Cut: all behind id go, the last first; or id is not there, and nothing goes. -/
def cutS : Vc.Spec := fun args hp _ K => (∃ (n nx id k : Int) (L post : List (Int × Bool)) (m : Nat), args = [.ptr 0 0 0 0, .v (.int .i64 id)] ∧ hp = robHp true n nx L post ∧ L.length ≤ 1000 ∧ m ≤ L.length ∧ k + 1 = m ∧ ¬ (k < 0 ∧ id ≠ -1) ∧ (∀ k', IxOK id L k' → k' = k) ∧
    K (.slc 2 1 0 (L.length - m)) [.cells 56 [.v (.int .i64 n), .v (.int .i64 nx), .slc 1 2 0 m], .row true 58 [.int .i64, .bool] ((L ++ post).map orow), .row true 3 [.int .i64] ((cutOut L m).map irow)]) ∨
  ∃ (n nx id : Int) (L post : List (Int × Bool)), args = [.ptr 0 0 0 0, .v (.int .i64 id)] ∧ hp = robHp true n nx L post ∧ L.length ≤ 1000 ∧ id ≠ -1 ∧ (∀ k', IxOK id L k' → k' = -1) ∧ K (.v (.slice none 0 0)) (robHp true n nx L post)
theorem cut_ok : SOK Tryd.prog 13 cutS := by
  refine TOK.weaken (TOK.out (runF_eqB GE_ok mixed at13.1 at13.2 pf13_eq back13)) fun args hp M K h => ?_
  rcases h with ⟨n, nx, id, k, L, post, m, rfl, rfl, h1, h2, h3, h4, h5, h6⟩ | ⟨n, nx, id, L, post, rfl, rfl, h1, h2, h3, h4⟩
  · exact cut_run M K n nx id k L post h1 m h2 h3 h4 h5 h6
  · exact cutno_run M K n nx id L post h1 h2 h3 h4
end Go.Proofs.YthmofpilphfkcaaDoor
