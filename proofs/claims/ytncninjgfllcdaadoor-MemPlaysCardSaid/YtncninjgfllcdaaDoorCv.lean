/-
  The document's Line's contract, SameBytes, NewMemory; the memory's Clone, Same, Bytes; walked; their contracts.
-/
import Derived.Test.YtncninjgfllcdaaDoorCu
namespace Go.Proofs.YtncninjgfllcdaaDoor
open Go Go.Vc
set_option maxRecDepth 100000
set_option linter.unusedSimpArgs false
set_option linter.unusedVariables false
def xlineS : Vc.Spec := fun args hp _ K => (∃ (n : Nat) (i : Int) (c : Nat → Nat), args = [.ptr 0 0 0 0, .v (.int .i64 i)] ∧ hp = xHp true n c ∧ n ≤ 65536 ∧ (i < 0 ∨ (n / 16 : Nat) ≤ i) ∧ K (.tup [.agg [wW 0, wW 0, wW 0, wW 0], .v (.bool false)]) (xHp true n c)) ∨
  (∃ (n i : Nat) (c : Nat → Nat), args = [.ptr 0 0 0 0, .v (.int .i64 i)] ∧ hp = xHp true n c ∧ n ≤ 65536 ∧ i < n / 16 ∧ (∀ j, c j < 256) ∧ K (.tup [.agg [wW (lnW c i 0), wW (lnW c i 1), wW (lnW c i 2), wW (lnW c i 3)], .v (.bool true)]) (xHp true n c))
theorem xline_ok : SOK Tryd.prog 29 xlineS := by
  refine TOK.weaken (TOK.out (runF_eq GU1_ok mixed at29.1 at29.2 pf29_eq)) fun args hp M K h => ?_
  rcases h with ⟨n, i, c, rfl, rfl, h1, h2, h3⟩ | ⟨n, i, c, rfl, rfl, h1, h2, h3, h4⟩
  · exact xnoline_run M K n i c h1 h2 h3
  · exact xline_run M K n i c h1 h2 h3 h4
theorem sameb_run (o o2 : Bool) (M : HL) (K : SV → List Ent → HL → Prop) (c d : Nat → Nat) (n : Nat) (hn : n ≤ 65536)
    (hK : K (.v (.bool (eqB n n c d))) [.row o 5 [.int .u8] (bT c n), .row o2 5 [.int .u8] (bT d n)] M) : runF G0 pf30 [.slc 0 1 0 n, .slc 1 1 0 n] [.row o 5 [.int .u8] (bT c n), .row o2 5 [.int .u8] (bT d n)] M K := by
  repeat ((conv => whnf); (first | refine Cnd.yes ?_ | refine Cnd.no ?_ | refine And.intro rfl ?_ | refine And.intro (by omega) ?_ | (refine And.intro ?_ ?_; focus (simp only [IntKind.wrap_i64, IntKind.wrap_u64, IntKind.wrap_u32]; omega)) | (refine And.intro ?_ ?_; focus (simp only [zl1, zl2, zl3, zl4, zl5, zl6, zl7, zl8] <;> omega)) | (refine Cnd.tt ?_ ?_; focus (first | (apply decide_eq_true; omega) | (simp only [zq1, zq2, zq3, zq4, zq5, zq6, zq7, zq8, zq9, zq10, zq11, zq12] <;> omega) | rfl)) | (refine Cnd.ff ?_ ?_; focus (first | (apply decide_eq_false; omega) | (simp only [zq1, zq2, zq3, zq4, zq5, zq6, zq7, zq8, zq9, zq10, zq11, zq12] <;> omega) | rfl))))
  conv => whnf
  refine ⟨InvS 29 (fun s : Nat => n - s) (fun s : Nat => s ≤ n ∧ ∀ j, j < s → c j = d j) (fun s : Nat => [(0, .slc 0 1 0 n), (1, .slc 1 1 0 n), (5, .v (.int .i64 s))]) (fun s : Nat => [Ent.row o 5 [.int .u8] (bT c n), .row o2 5 [.int .u8] (bT d n)]) M, ⟨(fun s : Nat => n - s) 0, [0, 1], tmk 29 0 ((fun s : Nat => [(0, .slc 0 1 0 n), (1, .slc 1 1 0 n), (5, .v (.int .i64 s))]) 0), (fun s : Nat => [Ent.row o 5 [.int .u8] (bT c n), .row o2 5 [.int .u8] (bT d n)]) 0, ?_⟩, ?_⟩
  · repeat ((conv => whnf); (first | refine Cnd.yes ?_ | refine Cnd.no ?_ | refine And.intro rfl ?_ | refine And.intro (by omega) ?_ | (refine And.intro ?_ ?_; focus (simp only [IntKind.wrap_i64, IntKind.wrap_u64, IntKind.wrap_u32]; omega)) | (refine And.intro ?_ ?_; focus (simp only [zl1, zl2, zl3, zl4, zl5, zl6, zl7, zl8] <;> omega))))
    conv => whnf
    exact ⟨0, ⟨Nat.zero_le _, fun j hj => by omega⟩, rfl, rfl, (tmkK_eq _ _ _ _).mpr rfl, rfl⟩
  · rintro cnt tm hp M1 ⟨i, hC_, rfl, rfl, htm, hhp_⟩
    replace hC_ : i ≤ n ∧ ∀ j, j < i → c j = d j := hC_
    obtain ⟨hi, hall⟩ := hC_
    replace htm : tmkK 29 0 [(0, .slc 0 1 0 n), (1, .slc 1 1 0 n), (5, .v (.int .i64 i))] (fun l => tm = l) := htm
    conv at htm => whnf
    subst htm
    replace hhp_ : hp = [Ent.row o 5 [.int .u8] (bT c n), .row o2 5 [.int .u8] (bT d n)] := hhp_
    subst hhp_
    repeat ((conv => whnf); (first | refine Cnd.yes ?_ | refine Cnd.no ?_ | refine And.intro rfl ?_ | refine And.intro (by omega) ?_ | (refine And.intro ?_ ?_; focus (simp only [IntKind.wrap_i64, IntKind.wrap_u64, IntKind.wrap_u32]; omega)) | (refine And.intro ?_ ?_; focus (simp only [zl1, zl2, zl3, zl4, zl5, zl6, zl7, zl8] <;> omega)) | (refine Cnd.tt ?_ ?_; focus (first | (apply decide_eq_true; omega) | (simp only [zq1, zq2, zq3, zq4, zq5, zq6, zq7, zq8, zq9, zq10, zq11, zq12] <;> omega) | rfl)) | (refine Cnd.ff ?_ ?_; focus (first | (apply decide_eq_false; omega) | (simp only [zq1, zq2, zq3, zq4, zq5, zq6, zq7, zq8, zq9, zq10, zq11, zq12] <;> omega) | rfl))))
    conv => whnf
    refine Cnd.mk (fun hlt => ?_) fun hge => ?_
    · have hin : i < n := by have := of_decide_eq_true hlt; omega
      have e1 : toI (cellAt (bT c n) (0 + (i : Int).toNat) 0) = (c i : Nat) := by rw [Nat.zero_add, Int.toNat_natCast]; exact toI_bT c hin
      have e2 : toI (cellAt (bT d n) (0 + (i : Int).toNat) 0) = (d i : Nat) := by rw [Nat.zero_add, Int.toNat_natCast]; exact toI_bT d hin
      have l1 := bT_len c n
      have l2 := bT_len d n
      repeat ((conv => whnf); (first | refine Cnd.yes ?_ | refine Cnd.no ?_ | refine And.intro rfl ?_ | refine And.intro (by omega) ?_ | (refine And.intro ?_ ?_; focus (simp only [IntKind.wrap_i64, IntKind.wrap_u64, IntKind.wrap_u32]; omega)) | (refine And.intro ?_ ?_; focus (simp only [zl1, zl2, zl3, zl4, zl5, zl6, zl7, zl8] <;> omega)) | (refine Cnd.tt ?_ ?_; focus (first | (apply decide_eq_true; omega) | (simp only [zq1, zq2, zq3, zq4, zq5, zq6, zq7, zq8, zq9, zq10, zq11, zq12] <;> omega) | rfl)) | (refine Cnd.ff ?_ ?_; focus (first | (apply decide_eq_false; omega) | (simp only [zq1, zq2, zq3, zq4, zq5, zq6, zq7, zq8, zq9, zq10, zq11, zq12] <;> omega) | rfl))))
      conv => whnf
      rw [e1, e2]
      by_cases hv : c i = d i
      · repeat ((conv => whnf); (first | refine Cnd.yes ?_ | refine Cnd.no ?_ | refine And.intro rfl ?_ | refine And.intro (by omega) ?_ | (refine And.intro ?_ ?_; focus (simp only [IntKind.wrap_i64, IntKind.wrap_u64, IntKind.wrap_u32]; omega)) | (refine And.intro ?_ ?_; focus (simp only [zl1, zl2, zl3, zl4, zl5, zl6, zl7, zl8] <;> omega)) | (refine Cnd.tt ?_ ?_; focus (first | (apply decide_eq_true; omega) | (simp only [zq1, zq2, zq3, zq4, zq5, zq6, zq7, zq8, zq9, zq10, zq11, zq12] <;> omega) | rfl)) | (refine Cnd.ff ?_ ?_; focus (first | (apply decide_eq_false; omega) | (simp only [zq1, zq2, zq3, zq4, zq5, zq6, zq7, zq8, zq9, zq10, zq11, zq12] <;> omega) | rfl))))
        conv => whnf
        (refine ⟨(fun s : Nat => n - s) (i + 1), [0, 1], tmk 29 0 ((fun s : Nat => [(0, .slc 0 1 0 n), (1, .slc 1 1 0 n), (5, .v (.int .i64 s))]) (i + 1)), (fun s : Nat => [Ent.row o 5 [.int .u8] (bT c n), .row o2 5 [.int .u8] (bT d n)]) (i + 1), ?_, ?_⟩; focus (first | (simp only []; omega) | omega))
        repeat ((conv => whnf); (first | refine Cnd.yes ?_ | refine Cnd.no ?_ | refine And.intro rfl ?_ | refine And.intro (by omega) ?_ | (refine And.intro ?_ ?_; focus (simp only [IntKind.wrap_i64, IntKind.wrap_u64, IntKind.wrap_u32]; omega)) | (refine And.intro ?_ ?_; focus (simp only [zl1, zl2, zl3, zl4, zl5, zl6, zl7, zl8] <;> omega))))
        conv => whnf
        exact ⟨i + 1, ⟨hin, fun j hj => by rcases Nat.lt_succ_iff_lt_or_eq.1 hj with h | h; exact hall j h; rw [h]; exact hv⟩, rfl, rfl, (tmkK_eq _ _ _ _).mpr rfl, rfl⟩
      · repeat ((conv => whnf); (first | refine Cnd.yes ?_ | refine Cnd.no ?_ | refine And.intro rfl ?_ | refine And.intro (by omega) ?_ | (refine And.intro ?_ ?_; focus (simp only [IntKind.wrap_i64, IntKind.wrap_u64, IntKind.wrap_u32]; omega)) | (refine And.intro ?_ ?_; focus (simp only [zl1, zl2, zl3, zl4, zl5, zl6, zl7, zl8] <;> omega)) | (refine Cnd.tt ?_ ?_; focus (first | (apply decide_eq_true; omega) | (simp only [zq1, zq2, zq3, zq4, zq5, zq6, zq7, zq8, zq9, zq10, zq11, zq12] <;> omega) | rfl)) | (refine Cnd.ff ?_ ?_; focus (first | (apply decide_eq_false; omega) | (simp only [zq1, zq2, zq3, zq4, zq5, zq6, zq7, zq8, zq9, zq10, zq11, zq12] <;> omega) | rfl))))
        conv => whnf
        rw [show eqB n n c d = false from decide_eq_false fun h => hv (h.2 i hin)] at hK
        exact hK
    · have hin : i = n := by have := of_decide_eq_false hge; omega
      subst hin
      repeat ((conv => whnf); (first | refine Cnd.yes ?_ | refine Cnd.no ?_ | refine And.intro rfl ?_ | refine And.intro (by omega) ?_ | (refine And.intro ?_ ?_; focus (simp only [IntKind.wrap_i64, IntKind.wrap_u64, IntKind.wrap_u32]; omega)) | (refine And.intro ?_ ?_; focus (simp only [zl1, zl2, zl3, zl4, zl5, zl6, zl7, zl8] <;> omega)) | (refine Cnd.tt ?_ ?_; focus (first | (apply decide_eq_true; omega) | (simp only [zq1, zq2, zq3, zq4, zq5, zq6, zq7, zq8, zq9, zq10, zq11, zq12] <;> omega) | rfl)) | (refine Cnd.ff ?_ ?_; focus (first | (apply decide_eq_false; omega) | (simp only [zq1, zq2, zq3, zq4, zq5, zq6, zq7, zq8, zq9, zq10, zq11, zq12] <;> omega) | rfl))))
      conv => whnf
      rw [show eqB i i c d = true from decide_eq_true ⟨rfl, hall⟩] at hK
      exact hK
def samebS : Vc.Spec := fun args hp _ K => ∃ (o o2 : Bool) (n : Nat) (c d : Nat → Nat), args = [.slc 0 1 0 n, .slc 1 1 0 n] ∧ hp = [.row o 5 [.int .u8] (bT c n), .row o2 5 [.int .u8] (bT d n)] ∧ n ≤ 65536 ∧ K (.v (.bool (eqB n n c d))) hp
theorem sameb_ok : SOK Tryd.prog 30 samebS := by
  refine TOK.weaken (runF_eq G0_ok mixed at30.1 at30.2 pf30_eq) fun args hp M K h => ?_
  obtain ⟨o, o2, n, c, d, rfl, rfl, h1, h2⟩ := h
  exact sameb_run o o2 M K c d n h1 h2
theorem bclone_run (M : HL) (K : SV → List Ent → HL → Prop) (o : Bool) (n : Nat) (c : Nat → Nat) (h0 : 0 < n) (hn : n ≤ 65536) (hK : K (.slc 1 1 0 n) [.row o 5 [.int .u8] (bT c n), .row true 5 [.int .u8] (bT c n)] M) :
    runF G0 pf41 [.slc 0 1 0 n] [.row o 5 [.int .u8] (bT c n)] M fun v hp2 M2 => ∃ m v' hp', Wk (llen [Ent.row o 5 [.int .u8] (bT c n)]) m [v] hp2 [v'] hp' (K v' hp' M2) := by
  have l1 := bT_len c n
  have hrow : List.take 0 (List.drop 0 []) ++ List.take n (List.drop 0 (bT c n)) = bT c n := by
    rw [List.drop_zero, List.drop_zero, List.take_of_length_le (l := bT c n) (by omega)]
    rfl
  repeat ((conv => whnf); (first | refine Cnd.yes ?_ | refine Cnd.no ?_ | refine And.intro rfl ?_ | refine And.intro (by omega) ?_ | (refine And.intro ?_ ?_; focus (simp only [IntKind.wrap_i64, IntKind.wrap_u64, IntKind.wrap_u32]; omega)) | (refine And.intro ?_ ?_; focus (simp only [zl1, zl2, zl3, zl4, zl5, zl6, zl7, zl8] <;> omega))))
  conv => whnf
  refine ⟨fun h1 => ?_, fun h1 => by omega⟩
  repeat ((conv => whnf); (first | refine Cnd.yes ?_ | refine Cnd.no ?_ | refine And.intro rfl ?_ | refine And.intro (by omega) ?_ | (refine And.intro ?_ ?_; focus (simp only [IntKind.wrap_i64, IntKind.wrap_u64, IntKind.wrap_u32]; omega)) | (refine And.intro ?_ ?_; focus (simp only [zl1, zl2, zl3, zl4, zl5, zl6, zl7, zl8] <;> omega)) | (refine Cnd.tt ?_ ?_; focus (first | (apply decide_eq_true; omega) | (simp only [zq1, zq2, zq3, zq4, zq5, zq6, zq7, zq8, zq9, zq10, zq11, zq12] <;> omega) | rfl)) | (refine Cnd.ff ?_ ?_; focus (first | (apply decide_eq_false; omega) | (simp only [zq1, zq2, zq3, zq4, zq5, zq6, zq7, zq8, zq9, zq10, zq11, zq12] <;> omega) | rfl))))
  conv => whnf
  refine ⟨[0, 2], .slc 1 1 0 n, [.row o 5 [.int .u8] (bT c n), .row true 5 [.int .u8] (bT c n)], ?_⟩
  repeat ((conv => whnf); (first | refine Cnd.yes ?_ | refine Cnd.no ?_ | refine And.intro rfl ?_ | refine And.intro (by omega) ?_ | (refine And.intro ?_ ?_; focus (simp only [IntKind.wrap_i64, IntKind.wrap_u64, IntKind.wrap_u32]; omega)) | (refine And.intro ?_ ?_; focus (simp only [zl1, zl2, zl3, zl4, zl5, zl6, zl7, zl8] <;> omega))))
  conv => whnf
  exact hK
def bcloneS : Vc.Spec := fun args hp _ K => ∃ (o : Bool) (n : Nat) (c : Nat → Nat), args = [.slc 0 1 0 n] ∧ hp = [.row o 5 [.int .u8] (bT c n)] ∧ 0 < n ∧ n ≤ 65536 ∧ K (.slc 1 1 0 n) [.row o 5 [.int .u8] (bT c n), .row true 5 [.int .u8] (bT c n)]
theorem bclone_ok : SOK Tryd.prog 41 bcloneS := by
  refine TOK.weaken (TOK.out (runF_eq G0_ok mixed at41.1 at41.2 pf41_eq)) fun args hp M K h => ?_
  obtain ⟨o, n, c, rfl, rfl, h1, h2, h3⟩ := h
  exact bclone_run M K o n c h1 h2 h3
noncomputable def specsV1 : Nat → Option Vc.Trans := tget [(25, frameT xstoreS), (41, frameT bcloneS), (37, frameT equalS)]
noncomputable def GV1 : Nat → Option Vc.Trans := tabG specsV1 (tget tab) 5
theorem GV1_ok : GOK Tryd.prog GV1 := tabG_ok (GOK.cons (frame_ok xstore_ok) (GOK.cons (frame_ok bclone_ok) (GOK.cons (frame_ok equal_ok) .nil))) tab_ok 5
theorem clone_runT (M : HL) (K : SV → List Ent → HL → Prop) (n : Nat) (c : Nat → Nat) (h0 : 0 < n) (hn : n ≤ 65536) (hK : K (.ptr 2 0 0 0) (memHp true n c ++ [.cells 64 [.slc 3 1 0 n], .row true 5 [.int .u8] (bT c n)]) M) :
    runF GV1 pf24 [.ptr 0 0 0 0] (memHp true n c) M fun v hp2 M2 => ∃ m v' hp', Wk (llen (memHp true n c)) m [v] hp2 [v'] hp' (K v' hp' M2) := by
  repeat ((conv => whnf); (first | refine Cnd.yes ?_ | refine Cnd.no ?_ | refine And.intro rfl ?_ | refine And.intro (by omega) ?_ | (refine And.intro ?_ ?_; focus (simp only [IntKind.wrap_i64, IntKind.wrap_u64, IntKind.wrap_u32]; omega)) | (refine And.intro ?_ ?_; focus (simp only [zl1, zl2, zl3, zl4, zl5, zl6, zl7, zl8] <;> omega)) | (refine Cnd.tt ?_ ?_; focus (first | (apply decide_eq_true; omega) | (simp only [zq1, zq2, zq3, zq4, zq5, zq6, zq7, zq8, zq9, zq10, zq11, zq12] <;> omega) | rfl)) | (refine Cnd.ff ?_ ?_; focus (first | (apply decide_eq_false; omega) | (simp only [zq1, zq2, zq3, zq4, zq5, zq6, zq7, zq8, zq9, zq10, zq11, zq12] <;> omega) | rfl))))
  conv => whnf
  refine ⟨true, n, c, rfl, rfl, h0, hn, ?_⟩
  repeat ((conv => whnf); (first | refine Cnd.yes ?_ | refine Cnd.no ?_ | refine And.intro rfl ?_ | refine And.intro (by omega) ?_ | (refine And.intro ?_ ?_; focus (simp only [IntKind.wrap_i64, IntKind.wrap_u64, IntKind.wrap_u32]; omega)) | (refine And.intro ?_ ?_; focus (simp only [zl1, zl2, zl3, zl4, zl5, zl6, zl7, zl8] <;> omega)) | (refine Cnd.tt ?_ ?_; focus (first | (apply decide_eq_true; omega) | (simp only [zq1, zq2, zq3, zq4, zq5, zq6, zq7, zq8, zq9, zq10, zq11, zq12] <;> omega) | rfl)) | (refine Cnd.ff ?_ ?_; focus (first | (apply decide_eq_false; omega) | (simp only [zq1, zq2, zq3, zq4, zq5, zq6, zq7, zq8, zq9, zq10, zq11, zq12] <;> omega) | rfl))))
  conv => whnf
  refine ⟨[0, 1, 3, 2], .ptr 2 0 0 0, memHp true n c ++ [.cells 64 [.slc 3 1 0 n], .row true 5 [.int .u8] (bT c n)], ?_⟩
  repeat ((conv => whnf); (first | refine Cnd.yes ?_ | refine Cnd.no ?_ | refine And.intro rfl ?_ | refine And.intro (by omega) ?_ | (refine And.intro ?_ ?_; focus (simp only [IntKind.wrap_i64, IntKind.wrap_u64, IntKind.wrap_u32]; omega)) | (refine And.intro ?_ ?_; focus (simp only [zl1, zl2, zl3, zl4, zl5, zl6, zl7, zl8] <;> omega))))
  conv => whnf
  exact hK
theorem bytes_runT (M : HL) (K : SV → List Ent → HL → Prop) (n : Nat) (c : Nat → Nat) (hK : K (.v (.int .i64 n)) (memHp true n c) M) :
    runF GV1 pf11 [.ptr 0 0 0 0] (memHp true n c) M K := by
  repeat ((conv => whnf); (first | refine Cnd.yes ?_ | refine Cnd.no ?_ | refine And.intro rfl ?_ | refine And.intro (by omega) ?_ | (refine And.intro ?_ ?_; focus (simp only [IntKind.wrap_i64, IntKind.wrap_u64, IntKind.wrap_u32]; omega)) | (refine And.intro ?_ ?_; focus (simp only [zl1, zl2, zl3, zl4, zl5, zl6, zl7, zl8] <;> omega)) | (refine Cnd.tt ?_ ?_; focus (first | (apply decide_eq_true; omega) | (simp only [zq1, zq2, zq3, zq4, zq5, zq6, zq7, zq8, zq9, zq10, zq11, zq12] <;> omega) | rfl)) | (refine Cnd.ff ?_ ?_; focus (first | (apply decide_eq_false; omega) | (simp only [zq1, zq2, zq3, zq4, zq5, zq6, zq7, zq8, zq9, zq10, zq11, zq12] <;> omega) | rfl))))
  conv => whnf
  exact hK
theorem clone_runF (M : HL) (K : SV → List Ent → HL → Prop) (n : Nat) (c : Nat → Nat) (h0 : 0 < n) (hn : n ≤ 65536) (hK : K (.ptr 2 0 0 0) (memHp false n c ++ [.cells 64 [.slc 3 1 0 n], .row true 5 [.int .u8] (bT c n)]) M) :
    runF GV1 pf24 [.ptr 0 0 0 0] (memHp false n c) M fun v hp2 M2 => ∃ m v' hp', Wk (llen (memHp false n c)) m [v] hp2 [v'] hp' (K v' hp' M2) := by
  repeat ((conv => whnf); (first | refine Cnd.yes ?_ | refine Cnd.no ?_ | refine And.intro rfl ?_ | refine And.intro (by omega) ?_ | (refine And.intro ?_ ?_; focus (simp only [IntKind.wrap_i64, IntKind.wrap_u64, IntKind.wrap_u32]; omega)) | (refine And.intro ?_ ?_; focus (simp only [zl1, zl2, zl3, zl4, zl5, zl6, zl7, zl8] <;> omega)) | (refine Cnd.tt ?_ ?_; focus (first | (apply decide_eq_true; omega) | (simp only [zq1, zq2, zq3, zq4, zq5, zq6, zq7, zq8, zq9, zq10, zq11, zq12] <;> omega) | rfl)) | (refine Cnd.ff ?_ ?_; focus (first | (apply decide_eq_false; omega) | (simp only [zq1, zq2, zq3, zq4, zq5, zq6, zq7, zq8, zq9, zq10, zq11, zq12] <;> omega) | rfl))))
  conv => whnf
  refine ⟨false, n, c, rfl, rfl, h0, hn, ?_⟩
  repeat ((conv => whnf); (first | refine Cnd.yes ?_ | refine Cnd.no ?_ | refine And.intro rfl ?_ | refine And.intro (by omega) ?_ | (refine And.intro ?_ ?_; focus (simp only [IntKind.wrap_i64, IntKind.wrap_u64, IntKind.wrap_u32]; omega)) | (refine And.intro ?_ ?_; focus (simp only [zl1, zl2, zl3, zl4, zl5, zl6, zl7, zl8] <;> omega)) | (refine Cnd.tt ?_ ?_; focus (first | (apply decide_eq_true; omega) | (simp only [zq1, zq2, zq3, zq4, zq5, zq6, zq7, zq8, zq9, zq10, zq11, zq12] <;> omega) | rfl)) | (refine Cnd.ff ?_ ?_; focus (first | (apply decide_eq_false; omega) | (simp only [zq1, zq2, zq3, zq4, zq5, zq6, zq7, zq8, zq9, zq10, zq11, zq12] <;> omega) | rfl))))
  conv => whnf
  refine ⟨[0, 1, 3, 2], .ptr 2 0 0 0, memHp false n c ++ [.cells 64 [.slc 3 1 0 n], .row true 5 [.int .u8] (bT c n)], ?_⟩
  repeat ((conv => whnf); (first | refine Cnd.yes ?_ | refine Cnd.no ?_ | refine And.intro rfl ?_ | refine And.intro (by omega) ?_ | (refine And.intro ?_ ?_; focus (simp only [IntKind.wrap_i64, IntKind.wrap_u64, IntKind.wrap_u32]; omega)) | (refine And.intro ?_ ?_; focus (simp only [zl1, zl2, zl3, zl4, zl5, zl6, zl7, zl8] <;> omega))))
  conv => whnf
  exact hK
theorem bytes_runF (M : HL) (K : SV → List Ent → HL → Prop) (n : Nat) (c : Nat → Nat) (hK : K (.v (.int .i64 n)) (memHp false n c) M) :
    runF GV1 pf11 [.ptr 0 0 0 0] (memHp false n c) M K := by
  repeat ((conv => whnf); (first | refine Cnd.yes ?_ | refine Cnd.no ?_ | refine And.intro rfl ?_ | refine And.intro (by omega) ?_ | (refine And.intro ?_ ?_; focus (simp only [IntKind.wrap_i64, IntKind.wrap_u64, IntKind.wrap_u32]; omega)) | (refine And.intro ?_ ?_; focus (simp only [zl1, zl2, zl3, zl4, zl5, zl6, zl7, zl8] <;> omega)) | (refine Cnd.tt ?_ ?_; focus (first | (apply decide_eq_true; omega) | (simp only [zq1, zq2, zq3, zq4, zq5, zq6, zq7, zq8, zq9, zq10, zq11, zq12] <;> omega) | rfl)) | (refine Cnd.ff ?_ ?_; focus (first | (apply decide_eq_false; omega) | (simp only [zq1, zq2, zq3, zq4, zq5, zq6, zq7, zq8, zq9, zq10, zq11, zq12] <;> omega) | rfl))))
  conv => whnf
  exact hK
theorem sameM_run (M : HL) (K : SV → List Ent → HL → Prop) (n : Nat) (c d : Nat → Nat) (hn : n ≤ 65536) (hK : K (.v (.bool (eqB n n c d))) (memHp false n c ++ [.rcells 64 [.slc 3 1 0 n], .row false 5 [.int .u8] (bT d n)]) M) :
    runF GV1 pf16 [.ptr 0 0 0 0, .ptr 2 0 0 0] (memHp false n c ++ [.rcells 64 [.slc 3 1 0 n], .row false 5 [.int .u8] (bT d n)]) M K := by
  repeat ((conv => whnf); (first | refine Cnd.yes ?_ | refine Cnd.no ?_ | refine And.intro rfl ?_ | refine And.intro (by omega) ?_ | (refine And.intro ?_ ?_; focus (simp only [IntKind.wrap_i64, IntKind.wrap_u64, IntKind.wrap_u32]; omega)) | (refine And.intro ?_ ?_; focus (simp only [zl1, zl2, zl3, zl4, zl5, zl6, zl7, zl8] <;> omega)) | (refine Cnd.tt ?_ ?_; focus (first | (apply decide_eq_true; omega) | (simp only [zq1, zq2, zq3, zq4, zq5, zq6, zq7, zq8, zq9, zq10, zq11, zq12] <;> omega) | rfl)) | (refine Cnd.ff ?_ ?_; focus (first | (apply decide_eq_false; omega) | (simp only [zq1, zq2, zq3, zq4, zq5, zq6, zq7, zq8, zq9, zq10, zq11, zq12] <;> omega) | rfl))))
  conv => whnf
  intro Mr hMr
  repeat ((conv => whnf); (first | refine Cnd.yes ?_ | refine Cnd.no ?_ | refine And.intro rfl ?_ | refine And.intro (by omega) ?_ | (refine And.intro ?_ ?_; focus (simp only [IntKind.wrap_i64, IntKind.wrap_u64, IntKind.wrap_u32]; omega)) | (refine And.intro ?_ ?_; focus (simp only [zl1, zl2, zl3, zl4, zl5, zl6, zl7, zl8] <;> omega)) | (refine Cnd.tt ?_ ?_; focus (first | (apply decide_eq_true; omega) | (simp only [zq1, zq2, zq3, zq4, zq5, zq6, zq7, zq8, zq9, zq10, zq11, zq12] <;> omega) | rfl)) | (refine Cnd.ff ?_ ?_; focus (first | (apply decide_eq_false; omega) | (simp only [zq1, zq2, zq3, zq4, zq5, zq6, zq7, zq8, zq9, zq10, zq11, zq12] <;> omega) | rfl))))
  conv => whnf
  refine ⟨false, false, n, n, c, d, rfl, rfl, hn, hn, ?_⟩
  repeat ((conv => whnf); (first | refine Cnd.yes ?_ | refine Cnd.no ?_ | refine And.intro rfl ?_ | refine And.intro (by omega) ?_ | (refine And.intro ?_ ?_; focus (simp only [IntKind.wrap_i64, IntKind.wrap_u64, IntKind.wrap_u32]; omega)) | (refine And.intro ?_ ?_; focus (simp only [zl1, zl2, zl3, zl4, zl5, zl6, zl7, zl8] <;> omega)) | (refine Cnd.tt ?_ ?_; focus (first | (apply decide_eq_true; omega) | (simp only [zq1, zq2, zq3, zq4, zq5, zq6, zq7, zq8, zq9, zq10, zq11, zq12] <;> omega) | rfl)) | (refine Cnd.ff ?_ ?_; focus (first | (apply decide_eq_false; omega) | (simp only [zq1, zq2, zq3, zq4, zq5, zq6, zq7, zq8, zq9, zq10, zq11, zq12] <;> omega) | rfl))))
  conv => whnf
  exact hK
def cloneS : Vc.Spec := fun args hp _ K => ∃ (o : Bool) (n : Nat) (c : Nat → Nat), args = [.ptr 0 0 0 0] ∧ hp = memHp o n c ∧ 0 < n ∧ n ≤ 65536 ∧ K (.ptr 2 0 0 0) (memHp o n c ++ [.cells 64 [.slc 3 1 0 n], .row true 5 [.int .u8] (bT c n)])
theorem clone_ok : SOK Tryd.prog 24 cloneS := by
  refine TOK.weaken (TOK.out (runF_eq GV1_ok mixed at24.1 at24.2 pf24_eq)) fun args hp M K h => ?_
  obtain ⟨o, n, c, rfl, rfl, h1, h2, h3⟩ := h
  cases o with
  | true => exact clone_runT M K n c h1 h2 h3
  | false => exact clone_runF M K n c h1 h2 h3
def bytesS : Vc.Spec := fun args hp _ K => ∃ (o : Bool) (n : Nat) (c : Nat → Nat), args = [.ptr 0 0 0 0] ∧ hp = memHp o n c ∧ K (.v (.int .i64 n)) (memHp o n c)
theorem bytes_ok : SOK Tryd.prog 11 bytesS := by
  refine TOK.weaken (runF_eq GV1_ok mixed at11.1 at11.2 pf11_eq) fun args hp M K h => ?_
  obtain ⟨o, n, c, rfl, rfl, h3⟩ := h
  cases o with
  | true => exact bytes_runT M K n c h3
  | false => exact bytes_runF M K n c h3
def sameMS : Vc.Spec := fun args hp _ K => ∃ (n : Nat) (c d : Nat → Nat), args = [.ptr 0 0 0 0, .ptr 2 0 0 0] ∧ hp = memHp false n c ++ [.rcells 64 [.slc 3 1 0 n], .row false 5 [.int .u8] (bT d n)] ∧ n ≤ 65536 ∧ K (.v (.bool (eqB n n c d))) (memHp false n c ++ [.rcells 64 [.slc 3 1 0 n], .row false 5 [.int .u8] (bT d n)])
theorem sameM_ok : SOK Tryd.prog 16 sameMS := by
  refine TOK.weaken (runF_eq GV1_ok mixed at16.1 at16.2 pf16_eq) fun args hp M K h => ?_
  obtain ⟨n, c, d, rfl, rfl, h1, h2⟩ := h
  exact sameM_run M K n c d h1 h2
theorem bad_cond {b : Int} (hb : ¬ okN b) (h1 : ¬ b < 16) (h2 : ¬ 65536 < b) : ¬ b.tmod 16 = 0 := by
  rw [Int.tmod_eq_emod_of_nonneg (by omega)]
  unfold okN at hb
  omega
def nHp (n : Nat) (e : TypeId) (o : Bool) (ws : List Nat) (i : Nat) : List Ent := [.row o e [.int .u32] (ws.map wrow), .cells 59 [.slc 2 1 0 n], .row true 5 [.int .u8] (bT (iniC ws i) n)]
theorem xnewB_run (M : HL) (K : SV → List Ent → HL → Prop) (b : Int) (o : Bool) (e : TypeId) (ws : List Nat) (hb : ¬ okN b) (hK : K (.tup [.v (.pointer none), .v (.int .i64 106)]) [.row o e [.int .u32] (ws.map wrow)] M) :
    runF GV1 pf23 [.v (.int .i64 b), .slc 0 1 0 ws.length] [.row o e [.int .u32] (ws.map wrow)] M fun v hp2 M2 => ∃ m v' hp', Wk (llen [Ent.row o e [.int .u32] (ws.map wrow)]) m [v] hp2 [v'] hp' (K v' hp' M2) := by
  by_cases h1 : b < 16
  · repeat ((conv => whnf); (first | refine Cnd.yes ?_ | refine Cnd.no ?_ | refine And.intro rfl ?_ | refine And.intro (by omega) ?_ | (refine And.intro ?_ ?_; focus (simp only [IntKind.wrap_i64, IntKind.wrap_u64, IntKind.wrap_u32]; omega)) | (refine And.intro ?_ ?_; focus (simp only [zl1, zl2, zl3, zl4, zl5, zl6, zl7, zl8] <;> omega)) | (refine Cnd.tt ?_ ?_; focus (first | (apply decide_eq_true; omega) | (simp only [zq1, zq2, zq3, zq4, zq5, zq6, zq7, zq8, zq9, zq10, zq11, zq12] <;> omega) | rfl)) | (refine Cnd.ff ?_ ?_; focus (first | (apply decide_eq_false; omega) | (simp only [zq1, zq2, zq3, zq4, zq5, zq6, zq7, zq8, zq9, zq10, zq11, zq12] <;> omega) | rfl))))
    conv => whnf
    refine ⟨[0], .tup [.v (.pointer none), .v (.int .i64 106)], [.row o e [.int .u32] (ws.map wrow)], ?_⟩
    repeat ((conv => whnf); (first | refine Cnd.yes ?_ | refine Cnd.no ?_ | refine And.intro rfl ?_ | refine And.intro (by omega) ?_ | (refine And.intro ?_ ?_; focus (simp only [IntKind.wrap_i64, IntKind.wrap_u64, IntKind.wrap_u32]; omega)) | (refine And.intro ?_ ?_; focus (simp only [zl1, zl2, zl3, zl4, zl5, zl6, zl7, zl8] <;> omega))))
    conv => whnf
    exact hK
  · by_cases h2 : 65536 < b
    · repeat ((conv => whnf); (first | refine Cnd.yes ?_ | refine Cnd.no ?_ | refine And.intro rfl ?_ | refine And.intro (by omega) ?_ | (refine And.intro ?_ ?_; focus (simp only [IntKind.wrap_i64, IntKind.wrap_u64, IntKind.wrap_u32]; omega)) | (refine And.intro ?_ ?_; focus (simp only [zl1, zl2, zl3, zl4, zl5, zl6, zl7, zl8] <;> omega)) | (refine Cnd.tt ?_ ?_; focus (first | (apply decide_eq_true; omega) | (simp only [zq1, zq2, zq3, zq4, zq5, zq6, zq7, zq8, zq9, zq10, zq11, zq12] <;> omega) | rfl)) | (refine Cnd.ff ?_ ?_; focus (first | (apply decide_eq_false; omega) | (simp only [zq1, zq2, zq3, zq4, zq5, zq6, zq7, zq8, zq9, zq10, zq11, zq12] <;> omega) | rfl))))
      conv => whnf
      refine ⟨[0], .tup [.v (.pointer none), .v (.int .i64 106)], [.row o e [.int .u32] (ws.map wrow)], ?_⟩
      repeat ((conv => whnf); (first | refine Cnd.yes ?_ | refine Cnd.no ?_ | refine And.intro rfl ?_ | refine And.intro (by omega) ?_ | (refine And.intro ?_ ?_; focus (simp only [IntKind.wrap_i64, IntKind.wrap_u64, IntKind.wrap_u32]; omega)) | (refine And.intro ?_ ?_; focus (simp only [zl1, zl2, zl3, zl4, zl5, zl6, zl7, zl8] <;> omega))))
      conv => whnf
      exact hK
    · have h3 := bad_cond hb h1 h2
      repeat ((conv => whnf); (first | refine Cnd.yes ?_ | refine Cnd.no ?_ | refine And.intro rfl ?_ | refine And.intro (by omega) ?_ | (refine And.intro ?_ ?_; focus (simp only [IntKind.wrap_i64, IntKind.wrap_u64, IntKind.wrap_u32]; omega)) | (refine And.intro ?_ ?_; focus (simp only [zl1, zl2, zl3, zl4, zl5, zl6, zl7, zl8] <;> omega)) | (refine Cnd.tt ?_ ?_; focus (first | (apply decide_eq_true; omega) | (simp only [zq1, zq2, zq3, zq4, zq5, zq6, zq7, zq8, zq9, zq10, zq11, zq12] <;> omega) | rfl)) | (refine Cnd.ff ?_ ?_; focus (first | (apply decide_eq_false; omega) | (simp only [zq1, zq2, zq3, zq4, zq5, zq6, zq7, zq8, zq9, zq10, zq11, zq12] <;> omega) | rfl))))
      conv => whnf
      refine ⟨[0], .tup [.v (.pointer none), .v (.int .i64 106)], [.row o e [.int .u32] (ws.map wrow)], ?_⟩
      repeat ((conv => whnf); (first | refine Cnd.yes ?_ | refine Cnd.no ?_ | refine And.intro rfl ?_ | refine And.intro (by omega) ?_ | (refine And.intro ?_ ?_; focus (simp only [IntKind.wrap_i64, IntKind.wrap_u64, IntKind.wrap_u32]; omega)) | (refine And.intro ?_ ?_; focus (simp only [zl1, zl2, zl3, zl4, zl5, zl6, zl7, zl8] <;> omega))))
      conv => whnf
      exact hK
theorem xnewM_run (M : HL) (K : SV → List Ent → HL → Prop) (n : Nat) (o : Bool) (e : TypeId) (ws : List Nat) (hb : okN n) (hw : n / 4 < ws.length) (hK : K (.tup [.v (.pointer none), .v (.int .i64 101)]) [.row o e [.int .u32] (ws.map wrow)] M) :
    runF GV1 pf23 [.v (.int .i64 n), .slc 0 1 0 ws.length] [.row o e [.int .u32] (ws.map wrow)] M fun v hp2 M2 => ∃ m v' hp', Wk (llen [Ent.row o e [.int .u32] (ws.map wrow)]) m [v] hp2 [v'] hp' (K v' hp' M2) := by
  unfold okN at hb
  have e0 : (n : Int).tmod 16 = 0 := by rw [Int.tmod_eq_emod_of_nonneg (by omega)]; omega
  have e1 : IntKind.i64.wrap ((n : Int).tdiv 4) = ((n / 4 : Nat) : Int) := by rw [Int.tdiv_eq_ediv_of_nonneg (by omega), IntKind.wrap_i64]; omega
  repeat ((conv => whnf); (first | refine Cnd.yes ?_ | refine Cnd.no ?_ | refine And.intro rfl ?_ | refine And.intro (by omega) ?_ | (refine And.intro ?_ ?_; focus (simp only [IntKind.wrap_i64, IntKind.wrap_u64, IntKind.wrap_u32]; omega)) | (refine And.intro ?_ ?_; focus (simp only [zl1, zl2, zl3, zl4, zl5, zl6, zl7, zl8] <;> omega)) | (refine Cnd.tt ?_ ?_; focus (first | (apply decide_eq_true; omega) | (simp only [zq1, zq2, zq3, zq4, zq5, zq6, zq7, zq8, zq9, zq10, zq11, zq12] <;> omega) | rfl)) | (refine Cnd.ff ?_ ?_; focus (first | (apply decide_eq_false; omega) | (simp only [zq1, zq2, zq3, zq4, zq5, zq6, zq7, zq8, zq9, zq10, zq11, zq12] <;> omega) | rfl))))
  conv => whnf
  refine ⟨[0], .tup [.v (.pointer none), .v (.int .i64 101)], [.row o e [.int .u32] (ws.map wrow)], ?_⟩
  repeat ((conv => whnf); (first | refine Cnd.yes ?_ | refine Cnd.no ?_ | refine And.intro rfl ?_ | refine And.intro (by omega) ?_ | (refine And.intro ?_ ?_; focus (simp only [IntKind.wrap_i64, IntKind.wrap_u64, IntKind.wrap_u32]; omega)) | (refine And.intro ?_ ?_; focus (simp only [zl1, zl2, zl3, zl4, zl5, zl6, zl7, zl8] <;> omega))))
  conv => whnf
  exact hK
theorem xnew_run (M : HL) (K : SV → List Ent → HL → Prop) (n : Nat) (o : Bool) (e : TypeId) (ws : List Nat) (hb : okN n) (hw : ws.length ≤ n / 4) (hwl : ∀ i, ws.getD i 0 < 4294967296) (hK : K (.tup [.ptr 1 0 0 0, .v (.int .i64 0)]) (nHp n e o ws ws.length) M) :
    runF GV1 pf23 [.v (.int .i64 n), .slc 0 1 0 ws.length] [.row o e [.int .u32] (ws.map wrow)] M fun v hp2 M2 => ∃ m v' hp', Wk (llen [Ent.row o e [.int .u32] (ws.map wrow)]) m [v] hp2 [v'] hp' (K v' hp' M2) := by
  unfold okN at hb
  have e0 : (n : Int).tmod 16 = 0 := by rw [Int.tmod_eq_emod_of_nonneg (by omega)]; omega
  have e1 : IntKind.i64.wrap ((n : Int).tdiv 4) = ((n / 4 : Nat) : Int) := by rw [Int.tdiv_eq_ediv_of_nonneg (by omega), IntKind.wrap_i64]; omega
  repeat ((conv => whnf); (first | refine Cnd.yes ?_ | refine Cnd.no ?_ | refine And.intro rfl ?_ | refine And.intro (by omega) ?_ | (refine And.intro ?_ ?_; focus (simp only [IntKind.wrap_i64, IntKind.wrap_u64, IntKind.wrap_u32]; omega)) | (refine And.intro ?_ ?_; focus (simp only [zl1, zl2, zl3, zl4, zl5, zl6, zl7, zl8] <;> omega)) | (refine Cnd.tt ?_ ?_; focus (first | (apply decide_eq_true; omega) | (simp only [zq1, zq2, zq3, zq4, zq5, zq6, zq7, zq8, zq9, zq10, zq11, zq12] <;> omega) | rfl)) | (refine Cnd.ff ?_ ?_; focus (first | (apply decide_eq_false; omega) | (simp only [zq1, zq2, zq3, zq4, zq5, zq6, zq7, zq8, zq9, zq10, zq11, zq12] <;> omega) | rfl))))
  conv => whnf
  rw [Int.toNat_natCast, bT_zero]
  refine ⟨InvS 44 (fun s : Nat => ws.length - s) (fun s : Nat => s ≤ ws.length) (fun s : Nat => [(0, .v (.int .i64 n)), (1, .slc 0 1 0 ws.length), (6, .ptr 1 0 0 0), (7, .v (.int .i64 s))]) (fun s : Nat => nHp n e o ws s) M, ⟨(fun s : Nat => ws.length - s) 0, [0, 2, 1], tmk 44 0 ((fun s : Nat => [(0, .v (.int .i64 n)), (1, .slc 0 1 0 ws.length), (6, .ptr 1 0 0 0), (7, .v (.int .i64 s))]) 0), (fun s : Nat => nHp n e o ws s) 0, ?_⟩, ?_⟩
  · repeat ((conv => whnf); (first | refine Cnd.yes ?_ | refine Cnd.no ?_ | refine And.intro rfl ?_ | refine And.intro (by omega) ?_ | (refine And.intro ?_ ?_; focus (simp only [IntKind.wrap_i64, IntKind.wrap_u64, IntKind.wrap_u32]; omega)) | (refine And.intro ?_ ?_; focus (simp only [zl1, zl2, zl3, zl4, zl5, zl6, zl7, zl8] <;> omega))))
    conv => whnf
    exact ⟨0, Nat.zero_le _, rfl, rfl, (tmkK_eq _ _ _ _).mpr rfl, rfl⟩
  · rintro cnt tm hp M1 ⟨i, hC_, rfl, rfl, htm, hhp_⟩
    replace hC_ : i ≤ ws.length := hC_
    have hi := hC_
    replace htm : tmkK 44 0 [(0, .v (.int .i64 n)), (1, .slc 0 1 0 ws.length), (6, .ptr 1 0 0 0), (7, .v (.int .i64 i))] (fun l => tm = l) := htm
    conv at htm => whnf
    subst htm
    replace hhp_ : hp = nHp n e o ws i := hhp_
    subst hhp_
    repeat ((conv => whnf); (first | refine Cnd.yes ?_ | refine Cnd.no ?_ | refine And.intro rfl ?_ | refine And.intro (by omega) ?_ | (refine And.intro ?_ ?_; focus (simp only [IntKind.wrap_i64, IntKind.wrap_u64, IntKind.wrap_u32]; omega)) | (refine And.intro ?_ ?_; focus (simp only [zl1, zl2, zl3, zl4, zl5, zl6, zl7, zl8] <;> omega)) | (refine Cnd.tt ?_ ?_; focus (first | (apply decide_eq_true; omega) | (simp only [zq1, zq2, zq3, zq4, zq5, zq6, zq7, zq8, zq9, zq10, zq11, zq12] <;> omega) | rfl)) | (refine Cnd.ff ?_ ?_; focus (first | (apply decide_eq_false; omega) | (simp only [zq1, zq2, zq3, zq4, zq5, zq6, zq7, zq8, zq9, zq10, zq11, zq12] <;> omega) | rfl))))
    conv => whnf
    refine Cnd.mk (fun hlt => ?_) fun hge => ?_
    · have hin : i < ws.length := by have := of_decide_eq_true hlt; omega
      have e4 : IntKind.u32.wrap (IntKind.i64.wrap (4 * (i : Int))) = ((4 * i : Nat) : Int) := by rw [IntKind.wrap_i64, IntKind.wrap_u32]; omega
      have e5 := toI_w hin
      have e6 : storeC n (4 * i) 4 (ws.getD i 0) (iniC ws i) = iniC ws (i + 1) := by
        unfold storeC
        rw [show hasB n (4 * i) 4 = true from by
          unfold hasB fairB
          rw [decide_eq_true, decide_eq_true]
          · rfl
          · omega
          · exact ⟨by omega, by show (4 * i) % 4 = 0; omega⟩]
        rfl
      repeat ((conv => whnf); (first | refine Cnd.yes ?_ | refine Cnd.no ?_ | refine And.intro rfl ?_ | refine And.intro (by omega) ?_ | (refine And.intro ?_ ?_; focus (simp only [IntKind.wrap_i64, IntKind.wrap_u64, IntKind.wrap_u32]; omega)) | (refine And.intro ?_ ?_; focus (simp only [zl1, zl2, zl3, zl4, zl5, zl6, zl7, zl8] <;> omega)) | (refine Cnd.tt ?_ ?_; focus (first | (apply decide_eq_true; omega) | (simp only [zq1, zq2, zq3, zq4, zq5, zq6, zq7, zq8, zq9, zq10, zq11, zq12] <;> omega) | rfl)) | (refine Cnd.ff ?_ ?_; focus (first | (apply decide_eq_false; omega) | (simp only [zq1, zq2, zq3, zq4, zq5, zq6, zq7, zq8, zq9, zq10, zq11, zq12] <;> omega) | rfl))))
      conv => whnf
      rw [e4, e5]
      refine ⟨n, 4 * i, ws.getD i 0, iniC ws i, 4, rfl, rfl, by omega, by omega, hwl i, ?_⟩
      rw [e6]
      repeat ((conv => whnf); (first | refine Cnd.yes ?_ | refine Cnd.no ?_ | refine And.intro rfl ?_ | refine And.intro (by omega) ?_ | (refine And.intro ?_ ?_; focus (simp only [IntKind.wrap_i64, IntKind.wrap_u64, IntKind.wrap_u32]; omega)) | (refine And.intro ?_ ?_; focus (simp only [zl1, zl2, zl3, zl4, zl5, zl6, zl7, zl8] <;> omega)) | (refine Cnd.tt ?_ ?_; focus (first | (apply decide_eq_true; omega) | (simp only [zq1, zq2, zq3, zq4, zq5, zq6, zq7, zq8, zq9, zq10, zq11, zq12] <;> omega) | rfl)) | (refine Cnd.ff ?_ ?_; focus (first | (apply decide_eq_false; omega) | (simp only [zq1, zq2, zq3, zq4, zq5, zq6, zq7, zq8, zq9, zq10, zq11, zq12] <;> omega) | rfl))))
      conv => whnf
      (refine ⟨(fun s : Nat => ws.length - s) (i + 1), [0, 1, 2], tmk 44 0 ((fun s : Nat => [(0, .v (.int .i64 n)), (1, .slc 0 1 0 ws.length), (6, .ptr 1 0 0 0), (7, .v (.int .i64 s))]) (i + 1)), (fun s : Nat => nHp n e o ws s) (i + 1), ?_, ?_⟩; focus (first | (simp only []; omega) | omega))
      repeat ((conv => whnf); (first | refine Cnd.yes ?_ | refine Cnd.no ?_ | refine And.intro rfl ?_ | refine And.intro (by omega) ?_ | (refine And.intro ?_ ?_; focus (simp only [IntKind.wrap_i64, IntKind.wrap_u64, IntKind.wrap_u32]; omega)) | (refine And.intro ?_ ?_; focus (simp only [zl1, zl2, zl3, zl4, zl5, zl6, zl7, zl8] <;> omega))))
      conv => whnf
      exact ⟨i + 1, hin, rfl, rfl, (tmkK_eq _ _ _ _).mpr rfl, rfl⟩
    · have hin : i = ws.length := by have := of_decide_eq_false hge; omega
      subst hin
      repeat ((conv => whnf); (first | refine Cnd.yes ?_ | refine Cnd.no ?_ | refine And.intro rfl ?_ | refine And.intro (by omega) ?_ | (refine And.intro ?_ ?_; focus (simp only [IntKind.wrap_i64, IntKind.wrap_u64, IntKind.wrap_u32]; omega)) | (refine And.intro ?_ ?_; focus (simp only [zl1, zl2, zl3, zl4, zl5, zl6, zl7, zl8] <;> omega)) | (refine Cnd.tt ?_ ?_; focus (first | (apply decide_eq_true; omega) | (simp only [zq1, zq2, zq3, zq4, zq5, zq6, zq7, zq8, zq9, zq10, zq11, zq12] <;> omega) | rfl)) | (refine Cnd.ff ?_ ?_; focus (first | (apply decide_eq_false; omega) | (simp only [zq1, zq2, zq3, zq4, zq5, zq6, zq7, zq8, zq9, zq10, zq11, zq12] <;> omega) | rfl))))
      conv => whnf
      refine ⟨[0, 1, 2], .tup [.ptr 1 0 0 0, .v (.int .i64 0)], nHp n e o ws ws.length, ?_⟩
      repeat ((conv => whnf); (first | refine Cnd.yes ?_ | refine Cnd.no ?_ | refine And.intro rfl ?_ | refine And.intro (by omega) ?_ | (refine And.intro ?_ ?_; focus (simp only [IntKind.wrap_i64, IntKind.wrap_u64, IntKind.wrap_u32]; omega)) | (refine And.intro ?_ ?_; focus (simp only [zl1, zl2, zl3, zl4, zl5, zl6, zl7, zl8] <;> omega))))
      conv => whnf
      exact hK
def xnewS : Vc.Spec := fun args hp _ K => (∃ (b : Int) (o : Bool) (e : TypeId) (ws : List Nat), args = [.v (.int .i64 b), .slc 0 1 0 ws.length] ∧ hp = [.row o e [.int .u32] (ws.map wrow)] ∧ ¬ okN b ∧ K (.tup [.v (.pointer none), .v (.int .i64 106)]) [.row o e [.int .u32] (ws.map wrow)]) ∨
  (∃ (n : Nat) (o : Bool) (e : TypeId) (ws : List Nat), args = [.v (.int .i64 n), .slc 0 1 0 ws.length] ∧ hp = [.row o e [.int .u32] (ws.map wrow)] ∧ okN n ∧ n / 4 < ws.length ∧ K (.tup [.v (.pointer none), .v (.int .i64 101)]) [.row o e [.int .u32] (ws.map wrow)]) ∨
  (∃ (n : Nat) (o : Bool) (e : TypeId) (ws : List Nat), args = [.v (.int .i64 n), .slc 0 1 0 ws.length] ∧ hp = [.row o e [.int .u32] (ws.map wrow)] ∧ okN n ∧ ws.length ≤ n / 4 ∧ (∀ i, ws.getD i 0 < 4294967296) ∧ K (.tup [.ptr 1 0 0 0, .v (.int .i64 0)]) (nHp n e o ws ws.length))
theorem xnew_ok : SOK Tryd.prog 23 xnewS := by
  refine TOK.weaken (TOK.out (runF_eq GV1_ok mixed at23.1 at23.2 pf23_eq)) fun args hp M K h => ?_
  rcases h with ⟨b, o, e, ws, rfl, rfl, h1, h2⟩ | ⟨n, o, e, ws, rfl, rfl, h1, h2, h3⟩ | ⟨n, o, e, ws, rfl, rfl, h1, h2, h3, h4⟩
  · exact xnewB_run M K b o e ws h1 h2
  · exact xnewM_run M K n o e ws h1 h2 h3
  · exact xnew_run M K n o e ws h1 h2 h3 h4
end Go.Proofs.YtncninjgfllcdaaDoor
