/-
  The document's memory: SetLine, Line, SameBytes; the memory's Clone, Same, Bytes, SetLine that refuses; walked; their contracts.
-/
import Derived.Test.YtncninjgfllcdaaDoorCr
import Derived.Test.YtncninjgfllcdaaDoorCm
namespace Go.Proofs.YtncninjgfllcdaaDoor
open Go Go.Vc
set_option maxRecDepth 100000
set_option linter.unusedSimpArgs false
set_option linter.unusedVariables false
noncomputable def specsU1 : Nat → Option Vc.Trans := tget [(25, frameT xstoreS), (28, frameT xloadS), (37, frameT equalS)]
noncomputable def GU1 : Nat → Option Vc.Trans := tabG specsU1 (tget tab) 5
theorem GU1_ok : GOK Tryd.prog GU1 := tabG_ok (GOK.cons (frame_ok xstore_ok) (GOK.cons (frame_ok xload_ok) (GOK.cons (frame_ok equal_ok) .nil))) tab_ok 5
theorem hasL {n i k : Nat} (hi : i < n / 16) (hk : k < 4) : hasB n (16 * i + 4 * k) 4 = true := by
  unfold hasB fairB
  rw [decide_eq_true, decide_eq_true]
  · rfl
  · omega
  · refine ⟨by omega, ?_⟩
    show (16 * i + 4 * k) % 4 = 0
    omega
theorem storeL {n i k : Nat} (hi : i < n / 16) (hk : k < 4) (v : Nat) (c : Nat → Nat) : storeC n (16 * i + 4 * k) 4 v c = putC c (16 * i + 4 * k) 4 v := by
  unfold storeC
  rw [hasL hi hk]
  rfl
theorem xsetline_run (M : HL) (K : SV → List Ent → HL → Prop) (n i : Nat) (c ws : Nat → Nat) (hn : n ≤ 65536) (hi : i < n / 16) (hw : ∀ k, ws k < 4294967296) (hK : K (.v (.bool true)) (xHp true n (setC c i ws 4)) M) :
    runF GU1 pf27 [.ptr 0 0 0 0, .v (.int .i64 i), lnV ws] (xHp true n c) M fun v hp2 M2 => ∃ m v' hp', Wk (llen (xHp true n c)) m [v] hp2 [v'] hp' (K v' hp' M2) := by
  have e : IntKind.i64.wrap (Int.tdiv n 16) = (n / 16 : Nat) := by rw [Int.tdiv_eq_ediv_of_nonneg (by omega), IntKind.wrap_i64]; omega
  repeat ((conv => whnf); (first | refine Cnd.yes ?_ | refine Cnd.no ?_ | refine And.intro rfl ?_ | refine And.intro (by omega) ?_ | (refine And.intro ?_ ?_; focus (simp only [IntKind.wrap_i64, IntKind.wrap_u64, IntKind.wrap_u32]; omega)) | (refine And.intro ?_ ?_; focus (simp only [zl1, zl2, zl3, zl4, zl5, zl6, zl7, zl8] <;> omega))))
  conv => whnf
  rw [e]
  repeat ((conv => whnf); (first | refine Cnd.yes ?_ | refine Cnd.no ?_ | refine And.intro rfl ?_ | refine And.intro (by omega) ?_ | (refine And.intro ?_ ?_; focus (simp only [IntKind.wrap_i64, IntKind.wrap_u64, IntKind.wrap_u32]; omega)) | (refine And.intro ?_ ?_; focus (simp only [zl1, zl2, zl3, zl4, zl5, zl6, zl7, zl8] <;> omega)) | (refine Cnd.tt ?_ ?_; focus (first | (apply decide_eq_true; omega) | (simp only [zq1, zq2, zq3, zq4, zq5, zq6, zq7, zq8, zq9, zq10, zq11, zq12] <;> omega) | rfl)) | (refine Cnd.ff ?_ ?_; focus (first | (apply decide_eq_false; omega) | (simp only [zq1, zq2, zq3, zq4, zq5, zq6, zq7, zq8, zq9, zq10, zq11, zq12] <;> omega) | rfl))))
  conv => whnf
  refine ⟨InvS 35 (fun s : Nat => 4 - s) (fun s : Nat => s ≤ 4) (fun s : Nat => [(0, .ptr 0 0 0 0), (1, .v (.int .i64 i)), (5, .ptr 2 0 0 0), (7, .v (.int .i64 s))]) (fun s : Nat => xHp true n (setC c i ws s) ++ [.cells 34 (lnC ws)]) M, ⟨(fun s : Nat => 4 - s) 0, [0, 1, 2], tmk 35 0 ((fun s : Nat => [(0, .ptr 0 0 0 0), (1, .v (.int .i64 i)), (5, .ptr 2 0 0 0), (7, .v (.int .i64 s))]) 0), (fun s : Nat => xHp true n (setC c i ws s) ++ [.cells 34 (lnC ws)]) 0, ?_⟩, ?_⟩
  · repeat ((conv => whnf); (first | refine Cnd.yes ?_ | refine Cnd.no ?_ | refine And.intro rfl ?_ | refine And.intro (by omega) ?_ | (refine And.intro ?_ ?_; focus (simp only [IntKind.wrap_i64, IntKind.wrap_u64, IntKind.wrap_u32]; omega)) | (refine And.intro ?_ ?_; focus (simp only [zl1, zl2, zl3, zl4, zl5, zl6, zl7, zl8] <;> omega))))
    conv => whnf
    exact ⟨0, by omega, rfl, rfl, (tmkK_eq _ _ _ _).mpr rfl, rfl⟩
  · rintro cnt tm hp M1 ⟨k, hC_, rfl, rfl, htm, hhp_⟩
    replace hC_ : k ≤ 4 := hC_
    have hk := hC_
    replace htm : tmkK 35 0 [(0, .ptr 0 0 0 0), (1, .v (.int .i64 i)), (5, .ptr 2 0 0 0), (7, .v (.int .i64 k))] (fun l => tm = l) := htm
    conv at htm => whnf
    subst htm
    replace hhp_ : hp = xHp true n (setC c i ws k) ++ [.cells 34 (lnC ws)] := hhp_
    subst hhp_
    repeat ((conv => whnf); (first | refine Cnd.yes ?_ | refine Cnd.no ?_ | refine And.intro rfl ?_ | refine And.intro (by omega) ?_ | (refine And.intro ?_ ?_; focus (simp only [IntKind.wrap_i64, IntKind.wrap_u64, IntKind.wrap_u32]; omega)) | (refine And.intro ?_ ?_; focus (simp only [zl1, zl2, zl3, zl4, zl5, zl6, zl7, zl8] <;> omega)) | (refine Cnd.tt ?_ ?_; focus (first | (apply decide_eq_true; omega) | (simp only [zq1, zq2, zq3, zq4, zq5, zq6, zq7, zq8, zq9, zq10, zq11, zq12] <;> omega) | rfl)) | (refine Cnd.ff ?_ ?_; focus (first | (apply decide_eq_false; omega) | (simp only [zq1, zq2, zq3, zq4, zq5, zq6, zq7, zq8, zq9, zq10, zq11, zq12] <;> omega) | rfl))))
    conv => whnf
    refine Cnd.mk (fun hlt => ?_) fun hge => ?_
    · have hk4 : k < 4 := by have := of_decide_eq_true hlt; omega
      have e2 : IntKind.u32.wrap (IntKind.i64.wrap (IntKind.i64.wrap ((i : Int) * 16) + IntKind.i64.wrap (4 * (k : Int)))) = ((16 * i + 4 * k : Nat) : Int) := by simp only [IntKind.wrap_i64, IntKind.wrap_u32]; omega
      repeat ((conv => whnf); (first | refine Cnd.yes ?_ | refine Cnd.no ?_ | refine And.intro rfl ?_ | refine And.intro (by omega) ?_ | (refine And.intro ?_ ?_; focus (simp only [IntKind.wrap_i64, IntKind.wrap_u64, IntKind.wrap_u32]; omega)) | (refine And.intro ?_ ?_; focus (simp only [zl1, zl2, zl3, zl4, zl5, zl6, zl7, zl8] <;> omega)) | (refine Cnd.tt ?_ ?_; focus (first | (apply decide_eq_true; omega) | (simp only [zq1, zq2, zq3, zq4, zq5, zq6, zq7, zq8, zq9, zq10, zq11, zq12] <;> omega) | rfl)) | (refine Cnd.ff ?_ ?_; focus (first | (apply decide_eq_false; omega) | (simp only [zq1, zq2, zq3, zq4, zq5, zq6, zq7, zq8, zq9, zq10, zq11, zq12] <;> omega) | rfl))))
      conv => whnf
      rw [e2]
      rcases (show k = 0 ∨ k = 1 ∨ k = 2 ∨ k = 3 by omega) with rfl | rfl | rfl | rfl
      · refine ⟨0, rfl, by omega, ?_⟩
        repeat ((conv => whnf); (first | refine Cnd.yes ?_ | refine Cnd.no ?_ | refine And.intro rfl ?_ | refine And.intro (by omega) ?_ | (refine And.intro ?_ ?_; focus (simp only [IntKind.wrap_i64, IntKind.wrap_u64, IntKind.wrap_u32]; omega)) | (refine And.intro ?_ ?_; focus (simp only [zl1, zl2, zl3, zl4, zl5, zl6, zl7, zl8] <;> omega)) | (refine Cnd.tt ?_ ?_; focus (first | (apply decide_eq_true; omega) | (simp only [zq1, zq2, zq3, zq4, zq5, zq6, zq7, zq8, zq9, zq10, zq11, zq12] <;> omega) | rfl)) | (refine Cnd.ff ?_ ?_; focus (first | (apply decide_eq_false; omega) | (simp only [zq1, zq2, zq3, zq4, zq5, zq6, zq7, zq8, zq9, zq10, zq11, zq12] <;> omega) | rfl))))
        conv => whnf
        refine ⟨n, 16 * i + 4 * 0, ws 0, setC c i ws 0, 4, rfl, rfl, by omega, hn, hw 0, ?_⟩
        rw [storeL hi (by omega)]
        repeat ((conv => whnf); (first | refine Cnd.yes ?_ | refine Cnd.no ?_ | refine And.intro rfl ?_ | refine And.intro (by omega) ?_ | (refine And.intro ?_ ?_; focus (simp only [IntKind.wrap_i64, IntKind.wrap_u64, IntKind.wrap_u32]; omega)) | (refine And.intro ?_ ?_; focus (simp only [zl1, zl2, zl3, zl4, zl5, zl6, zl7, zl8] <;> omega)) | (refine Cnd.tt ?_ ?_; focus (first | (apply decide_eq_true; omega) | (simp only [zq1, zq2, zq3, zq4, zq5, zq6, zq7, zq8, zq9, zq10, zq11, zq12] <;> omega) | rfl)) | (refine Cnd.ff ?_ ?_; focus (first | (apply decide_eq_false; omega) | (simp only [zq1, zq2, zq3, zq4, zq5, zq6, zq7, zq8, zq9, zq10, zq11, zq12] <;> omega) | rfl))))
        conv => whnf
        (refine ⟨(fun s : Nat => 4 - s) (1), [0, 1, 2], tmk 35 0 ((fun s : Nat => [(0, .ptr 0 0 0 0), (1, .v (.int .i64 i)), (5, .ptr 2 0 0 0), (7, .v (.int .i64 s))]) (1)), (fun s : Nat => xHp true n (setC c i ws s) ++ [.cells 34 (lnC ws)]) (1), ?_, ?_⟩; focus (first | (simp only []; omega) | omega))
        repeat ((conv => whnf); (first | refine Cnd.yes ?_ | refine Cnd.no ?_ | refine And.intro rfl ?_ | refine And.intro (by omega) ?_ | (refine And.intro ?_ ?_; focus (simp only [IntKind.wrap_i64, IntKind.wrap_u64, IntKind.wrap_u32]; omega)) | (refine And.intro ?_ ?_; focus (simp only [zl1, zl2, zl3, zl4, zl5, zl6, zl7, zl8] <;> omega))))
        conv => whnf
        exact ⟨1, (show 1 ≤ 4 by omega), rfl, rfl, (tmkK_eq _ _ _ _).mpr rfl, rfl⟩
      · refine ⟨1, rfl, by omega, ?_⟩
        repeat ((conv => whnf); (first | refine Cnd.yes ?_ | refine Cnd.no ?_ | refine And.intro rfl ?_ | refine And.intro (by omega) ?_ | (refine And.intro ?_ ?_; focus (simp only [IntKind.wrap_i64, IntKind.wrap_u64, IntKind.wrap_u32]; omega)) | (refine And.intro ?_ ?_; focus (simp only [zl1, zl2, zl3, zl4, zl5, zl6, zl7, zl8] <;> omega)) | (refine Cnd.tt ?_ ?_; focus (first | (apply decide_eq_true; omega) | (simp only [zq1, zq2, zq3, zq4, zq5, zq6, zq7, zq8, zq9, zq10, zq11, zq12] <;> omega) | rfl)) | (refine Cnd.ff ?_ ?_; focus (first | (apply decide_eq_false; omega) | (simp only [zq1, zq2, zq3, zq4, zq5, zq6, zq7, zq8, zq9, zq10, zq11, zq12] <;> omega) | rfl))))
        conv => whnf
        refine ⟨n, 16 * i + 4 * 1, ws 1, setC c i ws 1, 4, rfl, rfl, by omega, hn, hw 1, ?_⟩
        rw [storeL hi (by omega)]
        repeat ((conv => whnf); (first | refine Cnd.yes ?_ | refine Cnd.no ?_ | refine And.intro rfl ?_ | refine And.intro (by omega) ?_ | (refine And.intro ?_ ?_; focus (simp only [IntKind.wrap_i64, IntKind.wrap_u64, IntKind.wrap_u32]; omega)) | (refine And.intro ?_ ?_; focus (simp only [zl1, zl2, zl3, zl4, zl5, zl6, zl7, zl8] <;> omega)) | (refine Cnd.tt ?_ ?_; focus (first | (apply decide_eq_true; omega) | (simp only [zq1, zq2, zq3, zq4, zq5, zq6, zq7, zq8, zq9, zq10, zq11, zq12] <;> omega) | rfl)) | (refine Cnd.ff ?_ ?_; focus (first | (apply decide_eq_false; omega) | (simp only [zq1, zq2, zq3, zq4, zq5, zq6, zq7, zq8, zq9, zq10, zq11, zq12] <;> omega) | rfl))))
        conv => whnf
        (refine ⟨(fun s : Nat => 4 - s) (2), [0, 1, 2], tmk 35 0 ((fun s : Nat => [(0, .ptr 0 0 0 0), (1, .v (.int .i64 i)), (5, .ptr 2 0 0 0), (7, .v (.int .i64 s))]) (2)), (fun s : Nat => xHp true n (setC c i ws s) ++ [.cells 34 (lnC ws)]) (2), ?_, ?_⟩; focus (first | (simp only []; omega) | omega))
        repeat ((conv => whnf); (first | refine Cnd.yes ?_ | refine Cnd.no ?_ | refine And.intro rfl ?_ | refine And.intro (by omega) ?_ | (refine And.intro ?_ ?_; focus (simp only [IntKind.wrap_i64, IntKind.wrap_u64, IntKind.wrap_u32]; omega)) | (refine And.intro ?_ ?_; focus (simp only [zl1, zl2, zl3, zl4, zl5, zl6, zl7, zl8] <;> omega))))
        conv => whnf
        exact ⟨2, (show 2 ≤ 4 by omega), rfl, rfl, (tmkK_eq _ _ _ _).mpr rfl, rfl⟩
      · refine ⟨2, rfl, by omega, ?_⟩
        repeat ((conv => whnf); (first | refine Cnd.yes ?_ | refine Cnd.no ?_ | refine And.intro rfl ?_ | refine And.intro (by omega) ?_ | (refine And.intro ?_ ?_; focus (simp only [IntKind.wrap_i64, IntKind.wrap_u64, IntKind.wrap_u32]; omega)) | (refine And.intro ?_ ?_; focus (simp only [zl1, zl2, zl3, zl4, zl5, zl6, zl7, zl8] <;> omega)) | (refine Cnd.tt ?_ ?_; focus (first | (apply decide_eq_true; omega) | (simp only [zq1, zq2, zq3, zq4, zq5, zq6, zq7, zq8, zq9, zq10, zq11, zq12] <;> omega) | rfl)) | (refine Cnd.ff ?_ ?_; focus (first | (apply decide_eq_false; omega) | (simp only [zq1, zq2, zq3, zq4, zq5, zq6, zq7, zq8, zq9, zq10, zq11, zq12] <;> omega) | rfl))))
        conv => whnf
        refine ⟨n, 16 * i + 4 * 2, ws 2, setC c i ws 2, 4, rfl, rfl, by omega, hn, hw 2, ?_⟩
        rw [storeL hi (by omega)]
        repeat ((conv => whnf); (first | refine Cnd.yes ?_ | refine Cnd.no ?_ | refine And.intro rfl ?_ | refine And.intro (by omega) ?_ | (refine And.intro ?_ ?_; focus (simp only [IntKind.wrap_i64, IntKind.wrap_u64, IntKind.wrap_u32]; omega)) | (refine And.intro ?_ ?_; focus (simp only [zl1, zl2, zl3, zl4, zl5, zl6, zl7, zl8] <;> omega)) | (refine Cnd.tt ?_ ?_; focus (first | (apply decide_eq_true; omega) | (simp only [zq1, zq2, zq3, zq4, zq5, zq6, zq7, zq8, zq9, zq10, zq11, zq12] <;> omega) | rfl)) | (refine Cnd.ff ?_ ?_; focus (first | (apply decide_eq_false; omega) | (simp only [zq1, zq2, zq3, zq4, zq5, zq6, zq7, zq8, zq9, zq10, zq11, zq12] <;> omega) | rfl))))
        conv => whnf
        (refine ⟨(fun s : Nat => 4 - s) (3), [0, 1, 2], tmk 35 0 ((fun s : Nat => [(0, .ptr 0 0 0 0), (1, .v (.int .i64 i)), (5, .ptr 2 0 0 0), (7, .v (.int .i64 s))]) (3)), (fun s : Nat => xHp true n (setC c i ws s) ++ [.cells 34 (lnC ws)]) (3), ?_, ?_⟩; focus (first | (simp only []; omega) | omega))
        repeat ((conv => whnf); (first | refine Cnd.yes ?_ | refine Cnd.no ?_ | refine And.intro rfl ?_ | refine And.intro (by omega) ?_ | (refine And.intro ?_ ?_; focus (simp only [IntKind.wrap_i64, IntKind.wrap_u64, IntKind.wrap_u32]; omega)) | (refine And.intro ?_ ?_; focus (simp only [zl1, zl2, zl3, zl4, zl5, zl6, zl7, zl8] <;> omega))))
        conv => whnf
        exact ⟨3, (show 3 ≤ 4 by omega), rfl, rfl, (tmkK_eq _ _ _ _).mpr rfl, rfl⟩
      · refine ⟨3, rfl, by omega, ?_⟩
        repeat ((conv => whnf); (first | refine Cnd.yes ?_ | refine Cnd.no ?_ | refine And.intro rfl ?_ | refine And.intro (by omega) ?_ | (refine And.intro ?_ ?_; focus (simp only [IntKind.wrap_i64, IntKind.wrap_u64, IntKind.wrap_u32]; omega)) | (refine And.intro ?_ ?_; focus (simp only [zl1, zl2, zl3, zl4, zl5, zl6, zl7, zl8] <;> omega)) | (refine Cnd.tt ?_ ?_; focus (first | (apply decide_eq_true; omega) | (simp only [zq1, zq2, zq3, zq4, zq5, zq6, zq7, zq8, zq9, zq10, zq11, zq12] <;> omega) | rfl)) | (refine Cnd.ff ?_ ?_; focus (first | (apply decide_eq_false; omega) | (simp only [zq1, zq2, zq3, zq4, zq5, zq6, zq7, zq8, zq9, zq10, zq11, zq12] <;> omega) | rfl))))
        conv => whnf
        refine ⟨n, 16 * i + 4 * 3, ws 3, setC c i ws 3, 4, rfl, rfl, by omega, hn, hw 3, ?_⟩
        rw [storeL hi (by omega)]
        repeat ((conv => whnf); (first | refine Cnd.yes ?_ | refine Cnd.no ?_ | refine And.intro rfl ?_ | refine And.intro (by omega) ?_ | (refine And.intro ?_ ?_; focus (simp only [IntKind.wrap_i64, IntKind.wrap_u64, IntKind.wrap_u32]; omega)) | (refine And.intro ?_ ?_; focus (simp only [zl1, zl2, zl3, zl4, zl5, zl6, zl7, zl8] <;> omega)) | (refine Cnd.tt ?_ ?_; focus (first | (apply decide_eq_true; omega) | (simp only [zq1, zq2, zq3, zq4, zq5, zq6, zq7, zq8, zq9, zq10, zq11, zq12] <;> omega) | rfl)) | (refine Cnd.ff ?_ ?_; focus (first | (apply decide_eq_false; omega) | (simp only [zq1, zq2, zq3, zq4, zq5, zq6, zq7, zq8, zq9, zq10, zq11, zq12] <;> omega) | rfl))))
        conv => whnf
        (refine ⟨(fun s : Nat => 4 - s) (4), [0, 1, 2], tmk 35 0 ((fun s : Nat => [(0, .ptr 0 0 0 0), (1, .v (.int .i64 i)), (5, .ptr 2 0 0 0), (7, .v (.int .i64 s))]) (4)), (fun s : Nat => xHp true n (setC c i ws s) ++ [.cells 34 (lnC ws)]) (4), ?_, ?_⟩; focus (first | (simp only []; omega) | omega))
        repeat ((conv => whnf); (first | refine Cnd.yes ?_ | refine Cnd.no ?_ | refine And.intro rfl ?_ | refine And.intro (by omega) ?_ | (refine And.intro ?_ ?_; focus (simp only [IntKind.wrap_i64, IntKind.wrap_u64, IntKind.wrap_u32]; omega)) | (refine And.intro ?_ ?_; focus (simp only [zl1, zl2, zl3, zl4, zl5, zl6, zl7, zl8] <;> omega))))
        conv => whnf
        exact ⟨4, (show 4 ≤ 4 by omega), rfl, rfl, (tmkK_eq _ _ _ _).mpr rfl, rfl⟩
    · have hin : k = 4 := by have := of_decide_eq_false hge; omega
      subst hin
      repeat ((conv => whnf); (first | refine Cnd.yes ?_ | refine Cnd.no ?_ | refine And.intro rfl ?_ | refine And.intro (by omega) ?_ | (refine And.intro ?_ ?_; focus (simp only [IntKind.wrap_i64, IntKind.wrap_u64, IntKind.wrap_u32]; omega)) | (refine And.intro ?_ ?_; focus (simp only [zl1, zl2, zl3, zl4, zl5, zl6, zl7, zl8] <;> omega)) | (refine Cnd.tt ?_ ?_; focus (first | (apply decide_eq_true; omega) | (simp only [zq1, zq2, zq3, zq4, zq5, zq6, zq7, zq8, zq9, zq10, zq11, zq12] <;> omega) | rfl)) | (refine Cnd.ff ?_ ?_; focus (first | (apply decide_eq_false; omega) | (simp only [zq1, zq2, zq3, zq4, zq5, zq6, zq7, zq8, zq9, zq10, zq11, zq12] <;> omega) | rfl))))
      conv => whnf
      refine ⟨[0, 1], .v (.bool true), xHp true n (setC c i ws 4), ?_⟩
      repeat ((conv => whnf); (first | refine Cnd.yes ?_ | refine Cnd.no ?_ | refine And.intro rfl ?_ | refine And.intro (by omega) ?_ | (refine And.intro ?_ ?_; focus (simp only [IntKind.wrap_i64, IntKind.wrap_u64, IntKind.wrap_u32]; omega)) | (refine And.intro ?_ ?_; focus (simp only [zl1, zl2, zl3, zl4, zl5, zl6, zl7, zl8] <;> omega))))
      conv => whnf
      exact hK
def xsetlineS : Vc.Spec := fun args hp _ K => (∃ (n i : Nat) (c ws : Nat → Nat), args = [.ptr 0 0 0 0, .v (.int .i64 i), lnV ws] ∧ hp = xHp true n c ∧ n ≤ 65536 ∧ i < n / 16 ∧ (∀ k, ws k < 4294967296) ∧ K (.v (.bool true)) (xHp true n (setC c i ws 4))) ∨
  (∃ (n : Nat) (i : Int) (c ws : Nat → Nat), args = [.ptr 0 0 0 0, .v (.int .i64 i), lnV ws] ∧ hp = xHp true n c ∧ n ≤ 65536 ∧ (i < 0 ∨ (n / 16 : Nat) ≤ i) ∧ K (.v (.bool false)) (xHp true n c))
theorem xnoset_run (M : HL) (K : SV → List Ent → HL → Prop) (n : Nat) (i : Int) (c ws : Nat → Nat) (hn : n ≤ 65536) (hi : i < 0 ∨ (n / 16 : Nat) ≤ i) (hK : K (.v (.bool false)) (xHp true n c) M) :
    runF GU1 pf27 [.ptr 0 0 0 0, .v (.int .i64 i), lnV ws] (xHp true n c) M fun v hp2 M2 => ∃ m v' hp', Wk (llen (xHp true n c)) m [v] hp2 [v'] hp' (K v' hp' M2) := by
  have e : IntKind.i64.wrap (Int.tdiv n 16) = (n / 16 : Nat) := by rw [Int.tdiv_eq_ediv_of_nonneg (by omega), IntKind.wrap_i64]; omega
  by_cases h0 : i < 0
  · repeat ((conv => whnf); (first | refine Cnd.yes ?_ | refine Cnd.no ?_ | refine And.intro rfl ?_ | refine And.intro (by omega) ?_ | (refine And.intro ?_ ?_; focus (simp only [IntKind.wrap_i64, IntKind.wrap_u64, IntKind.wrap_u32]; omega)) | (refine And.intro ?_ ?_; focus (simp only [zl1, zl2, zl3, zl4, zl5, zl6, zl7, zl8] <;> omega)) | (refine Cnd.tt ?_ ?_; focus (first | (apply decide_eq_true; omega) | (simp only [zq1, zq2, zq3, zq4, zq5, zq6, zq7, zq8, zq9, zq10, zq11, zq12] <;> omega) | rfl)) | (refine Cnd.ff ?_ ?_; focus (first | (apply decide_eq_false; omega) | (simp only [zq1, zq2, zq3, zq4, zq5, zq6, zq7, zq8, zq9, zq10, zq11, zq12] <;> omega) | rfl))))
    conv => whnf
    refine ⟨[0, 1], .v (.bool false), xHp true n c, ?_⟩
    repeat ((conv => whnf); (first | refine Cnd.yes ?_ | refine Cnd.no ?_ | refine And.intro rfl ?_ | refine And.intro (by omega) ?_ | (refine And.intro ?_ ?_; focus (simp only [IntKind.wrap_i64, IntKind.wrap_u64, IntKind.wrap_u32]; omega)) | (refine And.intro ?_ ?_; focus (simp only [zl1, zl2, zl3, zl4, zl5, zl6, zl7, zl8] <;> omega))))
    conv => whnf
    exact hK
  · repeat ((conv => whnf); (first | refine Cnd.yes ?_ | refine Cnd.no ?_ | refine And.intro rfl ?_ | refine And.intro (by omega) ?_ | (refine And.intro ?_ ?_; focus (simp only [IntKind.wrap_i64, IntKind.wrap_u64, IntKind.wrap_u32]; omega)) | (refine And.intro ?_ ?_; focus (simp only [zl1, zl2, zl3, zl4, zl5, zl6, zl7, zl8] <;> omega)) | (refine Cnd.tt ?_ ?_; focus (first | (apply decide_eq_true; omega) | (simp only [zq1, zq2, zq3, zq4, zq5, zq6, zq7, zq8, zq9, zq10, zq11, zq12] <;> omega) | rfl)) | (refine Cnd.ff ?_ ?_; focus (first | (apply decide_eq_false; omega) | (simp only [zq1, zq2, zq3, zq4, zq5, zq6, zq7, zq8, zq9, zq10, zq11, zq12] <;> omega) | rfl))))
    conv => whnf
    refine ⟨[0, 1], .v (.bool false), xHp true n c, ?_⟩
    repeat ((conv => whnf); (first | refine Cnd.yes ?_ | refine Cnd.no ?_ | refine And.intro rfl ?_ | refine And.intro (by omega) ?_ | (refine And.intro ?_ ?_; focus (simp only [IntKind.wrap_i64, IntKind.wrap_u64, IntKind.wrap_u32]; omega)) | (refine And.intro ?_ ?_; focus (simp only [zl1, zl2, zl3, zl4, zl5, zl6, zl7, zl8] <;> omega))))
    conv => whnf
    exact hK
theorem xsetline_ok : SOK Tryd.prog 27 xsetlineS := by
  refine TOK.weaken (TOK.out (runF_eq GU1_ok mixed at27.1 at27.2 pf27_eq)) fun args hp M K h => ?_
  rcases h with ⟨n, i, c, ws, rfl, rfl, h1, h2, h3, h4⟩ | ⟨n, i, c, ws, rfl, rfl, h1, h2, h3⟩
  · exact xsetline_run M K n i c ws h1 h2 h3 h4
  · exact xnoset_run M K n i c ws h1 h2 h3
theorem noset_run (M : HL) (K : SV → List Ent → HL → Prop) (n : Nat) (i : Int) (c ws : Nat → Nat) (hn : n ≤ 65536) (hi : i < 0 ∨ (n / 16 : Nat) ≤ i) (hK : K (.v (.bool false)) (memHp true n c) M) :
    runF G4 pf26 [.ptr 0 0 0 0, .v (.int .i64 i), lnV ws] (memHp true n c) M fun v hp2 M2 => ∃ m v' hp', Wk (llen (memHp true n c)) m [v] hp2 [v'] hp' (K v' hp' M2) := by
  have e : IntKind.i64.wrap (Int.tdiv n 16) = (n / 16 : Nat) := by rw [Int.tdiv_eq_ediv_of_nonneg (by omega), IntKind.wrap_i64]; omega
  by_cases h0 : i < 0
  · repeat ((conv => whnf); (first | refine Cnd.yes ?_ | refine Cnd.no ?_ | refine And.intro rfl ?_ | refine And.intro (by omega) ?_ | (refine And.intro ?_ ?_; focus (simp only [IntKind.wrap_i64, IntKind.wrap_u64, IntKind.wrap_u32]; omega)) | (refine And.intro ?_ ?_; focus (simp only [zl1, zl2, zl3, zl4, zl5, zl6, zl7, zl8] <;> omega)) | (refine Cnd.tt ?_ ?_; focus (first | (apply decide_eq_true; omega) | (simp only [zq1, zq2, zq3, zq4, zq5, zq6, zq7, zq8, zq9, zq10, zq11, zq12] <;> omega) | rfl)) | (refine Cnd.ff ?_ ?_; focus (first | (apply decide_eq_false; omega) | (simp only [zq1, zq2, zq3, zq4, zq5, zq6, zq7, zq8, zq9, zq10, zq11, zq12] <;> omega) | rfl))))
    conv => whnf
    refine ⟨[0, 1], .v (.bool false), memHp true n c, ?_⟩
    repeat ((conv => whnf); (first | refine Cnd.yes ?_ | refine Cnd.no ?_ | refine And.intro rfl ?_ | refine And.intro (by omega) ?_ | (refine And.intro ?_ ?_; focus (simp only [IntKind.wrap_i64, IntKind.wrap_u64, IntKind.wrap_u32]; omega)) | (refine And.intro ?_ ?_; focus (simp only [zl1, zl2, zl3, zl4, zl5, zl6, zl7, zl8] <;> omega))))
    conv => whnf
    exact hK
  · repeat ((conv => whnf); (first | refine Cnd.yes ?_ | refine Cnd.no ?_ | refine And.intro rfl ?_ | refine And.intro (by omega) ?_ | (refine And.intro ?_ ?_; focus (simp only [IntKind.wrap_i64, IntKind.wrap_u64, IntKind.wrap_u32]; omega)) | (refine And.intro ?_ ?_; focus (simp only [zl1, zl2, zl3, zl4, zl5, zl6, zl7, zl8] <;> omega)) | (refine Cnd.tt ?_ ?_; focus (first | (apply decide_eq_true; omega) | (simp only [zq1, zq2, zq3, zq4, zq5, zq6, zq7, zq8, zq9, zq10, zq11, zq12] <;> omega) | rfl)) | (refine Cnd.ff ?_ ?_; focus (first | (apply decide_eq_false; omega) | (simp only [zq1, zq2, zq3, zq4, zq5, zq6, zq7, zq8, zq9, zq10, zq11, zq12] <;> omega) | rfl))))
    conv => whnf
    refine ⟨[0, 1], .v (.bool false), memHp true n c, ?_⟩
    repeat ((conv => whnf); (first | refine Cnd.yes ?_ | refine Cnd.no ?_ | refine And.intro rfl ?_ | refine And.intro (by omega) ?_ | (refine And.intro ?_ ?_; focus (simp only [IntKind.wrap_i64, IntKind.wrap_u64, IntKind.wrap_u32]; omega)) | (refine And.intro ?_ ?_; focus (simp only [zl1, zl2, zl3, zl4, zl5, zl6, zl7, zl8] <;> omega))))
    conv => whnf
    exact hK
def nosetS : Vc.Spec := fun args hp _ K => ∃ (n : Nat) (i : Int) (c ws : Nat → Nat), args = [.ptr 0 0 0 0, .v (.int .i64 i), lnV ws] ∧ hp = memHp true n c ∧ n ≤ 65536 ∧ (i < 0 ∨ (n / 16 : Nat) ≤ i) ∧ K (.v (.bool false)) (memHp true n c)
theorem noset_ok : SOK Tryd.prog 26 nosetS := by
  refine TOK.weaken (TOK.out (runF_eq G4_ok mixed at26.1 at26.2 pf26_eq)) fun args hp M K h => ?_
  obtain ⟨n, i, c, ws, rfl, rfl, h1, h2, h3⟩ := h
  exact noset_run M K n i c ws h1 h2 h3
theorem xnoline_run (M : HL) (K : SV → List Ent → HL → Prop) (n : Nat) (i : Int) (c : Nat → Nat) (hn : n ≤ 65536) (hi : i < 0 ∨ (n / 16 : Nat) ≤ i) (hK : K (.tup [.agg [wW 0, wW 0, wW 0, wW 0], .v (.bool false)]) (xHp true n c) M) :
    runF GU1 pf29 [.ptr 0 0 0 0, .v (.int .i64 i)] (xHp true n c) M fun v hp2 M2 => ∃ m v' hp', Wk (llen (xHp true n c)) m [v] hp2 [v'] hp' (K v' hp' M2) := by
  have e : IntKind.i64.wrap (Int.tdiv n 16) = (n / 16 : Nat) := by rw [Int.tdiv_eq_ediv_of_nonneg (by omega), IntKind.wrap_i64]; omega
  by_cases h0 : i < 0
  · repeat ((conv => whnf); (first | refine Cnd.yes ?_ | refine Cnd.no ?_ | refine And.intro rfl ?_ | refine And.intro (by omega) ?_ | (refine And.intro ?_ ?_; focus (simp only [IntKind.wrap_i64, IntKind.wrap_u64, IntKind.wrap_u32]; omega)) | (refine And.intro ?_ ?_; focus (simp only [zl1, zl2, zl3, zl4, zl5, zl6, zl7, zl8] <;> omega)) | (refine Cnd.tt ?_ ?_; focus (first | (apply decide_eq_true; omega) | (simp only [zq1, zq2, zq3, zq4, zq5, zq6, zq7, zq8, zq9, zq10, zq11, zq12] <;> omega) | rfl)) | (refine Cnd.ff ?_ ?_; focus (first | (apply decide_eq_false; omega) | (simp only [zq1, zq2, zq3, zq4, zq5, zq6, zq7, zq8, zq9, zq10, zq11, zq12] <;> omega) | rfl))))
    conv => whnf
    refine ⟨[0, 1], .tup [.agg [wW 0, wW 0, wW 0, wW 0], .v (.bool false)], xHp true n c, ?_⟩
    repeat ((conv => whnf); (first | refine Cnd.yes ?_ | refine Cnd.no ?_ | refine And.intro rfl ?_ | refine And.intro (by omega) ?_ | (refine And.intro ?_ ?_; focus (simp only [IntKind.wrap_i64, IntKind.wrap_u64, IntKind.wrap_u32]; omega)) | (refine And.intro ?_ ?_; focus (simp only [zl1, zl2, zl3, zl4, zl5, zl6, zl7, zl8] <;> omega))))
    conv => whnf
    exact hK
  · repeat ((conv => whnf); (first | refine Cnd.yes ?_ | refine Cnd.no ?_ | refine And.intro rfl ?_ | refine And.intro (by omega) ?_ | (refine And.intro ?_ ?_; focus (simp only [IntKind.wrap_i64, IntKind.wrap_u64, IntKind.wrap_u32]; omega)) | (refine And.intro ?_ ?_; focus (simp only [zl1, zl2, zl3, zl4, zl5, zl6, zl7, zl8] <;> omega)) | (refine Cnd.tt ?_ ?_; focus (first | (apply decide_eq_true; omega) | (simp only [zq1, zq2, zq3, zq4, zq5, zq6, zq7, zq8, zq9, zq10, zq11, zq12] <;> omega) | rfl)) | (refine Cnd.ff ?_ ?_; focus (first | (apply decide_eq_false; omega) | (simp only [zq1, zq2, zq3, zq4, zq5, zq6, zq7, zq8, zq9, zq10, zq11, zq12] <;> omega) | rfl))))
    conv => whnf
    refine ⟨[0, 1], .tup [.agg [wW 0, wW 0, wW 0, wW 0], .v (.bool false)], xHp true n c, ?_⟩
    repeat ((conv => whnf); (first | refine Cnd.yes ?_ | refine Cnd.no ?_ | refine And.intro rfl ?_ | refine And.intro (by omega) ?_ | (refine And.intro ?_ ?_; focus (simp only [IntKind.wrap_i64, IntKind.wrap_u64, IntKind.wrap_u32]; omega)) | (refine And.intro ?_ ?_; focus (simp only [zl1, zl2, zl3, zl4, zl5, zl6, zl7, zl8] <;> omega))))
    conv => whnf
    exact hK
def lnT (W : Nat → Nat) : Nat → List SV
  | 0 => [wW 0, wW 0, wW 0, wW 0]
  | 1 => [wW (W 0), wW 0, wW 0, wW 0]
  | 2 => [wW (W 0), wW (W 1), wW 0, wW 0]
  | 3 => [wW (W 0), wW (W 1), wW (W 2), wW 0]
  | _ => [wW (W 0), wW (W 1), wW (W 2), wW (W 3)]
set_option maxHeartbeats 1000000 in
theorem xline_run (M : HL) (K : SV → List Ent → HL → Prop) (n i : Nat) (c : Nat → Nat) (hn : n ≤ 65536) (hi : i < n / 16) (hc : ∀ j, c j < 256) (hK : K (.tup [.agg [wW (lnW c i 0), wW (lnW c i 1), wW (lnW c i 2), wW (lnW c i 3)], .v (.bool true)]) (xHp true n c) M) :
    runF GU1 pf29 [.ptr 0 0 0 0, .v (.int .i64 i)] (xHp true n c) M fun v hp2 M2 => ∃ m v' hp', Wk (llen (xHp true n c)) m [v] hp2 [v'] hp' (K v' hp' M2) := by
  have e : IntKind.i64.wrap (Int.tdiv n 16) = (n / 16 : Nat) := by rw [Int.tdiv_eq_ediv_of_nonneg (by omega), IntKind.wrap_i64]; omega
  obtain ⟨W, hW⟩ : ∃ W : Nat → Nat, W = lnW c i := ⟨_, rfl⟩
  rw [← hW] at hK
  repeat ((conv => whnf); (first | refine Cnd.yes ?_ | refine Cnd.no ?_ | refine And.intro rfl ?_ | refine And.intro (by omega) ?_ | (refine And.intro ?_ ?_; focus (simp only [IntKind.wrap_i64, IntKind.wrap_u64, IntKind.wrap_u32]; omega)) | (refine And.intro ?_ ?_; focus (simp only [zl1, zl2, zl3, zl4, zl5, zl6, zl7, zl8] <;> omega))))
  conv => whnf
  rw [e]
  repeat ((conv => whnf); (first | refine Cnd.yes ?_ | refine Cnd.no ?_ | refine And.intro rfl ?_ | refine And.intro (by omega) ?_ | (refine And.intro ?_ ?_; focus (simp only [IntKind.wrap_i64, IntKind.wrap_u64, IntKind.wrap_u32]; omega)) | (refine And.intro ?_ ?_; focus (simp only [zl1, zl2, zl3, zl4, zl5, zl6, zl7, zl8] <;> omega)) | (refine Cnd.tt ?_ ?_; focus (first | (apply decide_eq_true; omega) | (simp only [zq1, zq2, zq3, zq4, zq5, zq6, zq7, zq8, zq9, zq10, zq11, zq12] <;> omega) | rfl)) | (refine Cnd.ff ?_ ?_; focus (first | (apply decide_eq_false; omega) | (simp only [zq1, zq2, zq3, zq4, zq5, zq6, zq7, zq8, zq9, zq10, zq11, zq12] <;> omega) | rfl))))
  conv => whnf
  refine ⟨InvS 39 (fun s : Nat => 4 - s) (fun s : Nat => s ≤ 4) (fun s : Nat => [(0, .ptr 0 0 0 0), (1, .v (.int .i64 i)), (4, .ptr 2 0 0 0), (6, .ptr 3 0 0 0), (7, .v (.int .i64 s))]) (fun s : Nat => xHp true n c ++ [.cells 34 [wW 0, wW 0, wW 0, wW 0], .cells 34 (lnT W s)]) M, ⟨(fun s : Nat => 4 - s) 0, [0, 1, 2, 3], tmk 39 0 ((fun s : Nat => [(0, .ptr 0 0 0 0), (1, .v (.int .i64 i)), (4, .ptr 2 0 0 0), (6, .ptr 3 0 0 0), (7, .v (.int .i64 s))]) 0), (fun s : Nat => xHp true n c ++ [.cells 34 [wW 0, wW 0, wW 0, wW 0], .cells 34 (lnT W s)]) 0, ?_⟩, ?_⟩
  · repeat ((conv => whnf); (first | refine Cnd.yes ?_ | refine Cnd.no ?_ | refine And.intro rfl ?_ | refine And.intro (by omega) ?_ | (refine And.intro ?_ ?_; focus (simp only [IntKind.wrap_i64, IntKind.wrap_u64, IntKind.wrap_u32]; omega)) | (refine And.intro ?_ ?_; focus (simp only [zl1, zl2, zl3, zl4, zl5, zl6, zl7, zl8] <;> omega))))
    conv => whnf
    exact ⟨0, by omega, rfl, rfl, (tmkK_eq _ _ _ _).mpr rfl, rfl⟩
  · rintro cnt tm hp M1 ⟨k, hC_, rfl, rfl, htm, hhp_⟩
    replace hC_ : k ≤ 4 := hC_
    have hk := hC_
    replace htm : tmkK 39 0 [(0, .ptr 0 0 0 0), (1, .v (.int .i64 i)), (4, .ptr 2 0 0 0), (6, .ptr 3 0 0 0), (7, .v (.int .i64 k))] (fun l => tm = l) := htm
    conv at htm => whnf
    subst htm
    replace hhp_ : hp = xHp true n c ++ [.cells 34 [wW 0, wW 0, wW 0, wW 0], .cells 34 (lnT W k)] := hhp_
    subst hhp_
    by_cases h4 : k = 4
    · subst h4
      repeat ((conv => whnf); (first | refine Cnd.yes ?_ | refine Cnd.no ?_ | refine And.intro rfl ?_ | refine And.intro (by omega) ?_ | (refine And.intro ?_ ?_; focus (simp only [IntKind.wrap_i64, IntKind.wrap_u64, IntKind.wrap_u32]; omega)) | (refine And.intro ?_ ?_; focus (simp only [zl1, zl2, zl3, zl4, zl5, zl6, zl7, zl8] <;> omega)) | (refine Cnd.tt ?_ ?_; focus (first | (apply decide_eq_true; omega) | (simp only [zq1, zq2, zq3, zq4, zq5, zq6, zq7, zq8, zq9, zq10, zq11, zq12] <;> omega) | rfl)) | (refine Cnd.ff ?_ ?_; focus (first | (apply decide_eq_false; omega) | (simp only [zq1, zq2, zq3, zq4, zq5, zq6, zq7, zq8, zq9, zq10, zq11, zq12] <;> omega) | rfl))))
      conv => whnf
      refine ⟨[0, 1], .tup [.agg [wW (W 0), wW (W 1), wW (W 2), wW (W 3)], .v (.bool true)], xHp true n c, ?_⟩
      repeat ((conv => whnf); (first | refine Cnd.yes ?_ | refine Cnd.no ?_ | refine And.intro rfl ?_ | refine And.intro (by omega) ?_ | (refine And.intro ?_ ?_; focus (simp only [IntKind.wrap_i64, IntKind.wrap_u64, IntKind.wrap_u32]; omega)) | (refine And.intro ?_ ?_; focus (simp only [zl1, zl2, zl3, zl4, zl5, zl6, zl7, zl8] <;> omega))))
      conv => whnf
      exact hK
    · have e2 : IntKind.u32.wrap (IntKind.i64.wrap (IntKind.i64.wrap ((i : Int) * 16) + IntKind.i64.wrap (4 * (k : Int)))) = ((16 * i + 4 * k : Nat) : Int) := by simp only [IntKind.wrap_i64, IntKind.wrap_u32]; omega
      repeat ((conv => whnf); (first | refine Cnd.yes ?_ | refine Cnd.no ?_ | refine And.intro rfl ?_ | refine And.intro (by omega) ?_ | (refine And.intro ?_ ?_; focus (simp only [IntKind.wrap_i64, IntKind.wrap_u64, IntKind.wrap_u32]; omega)) | (refine And.intro ?_ ?_; focus (simp only [zl1, zl2, zl3, zl4, zl5, zl6, zl7, zl8] <;> omega)) | (refine Cnd.tt ?_ ?_; focus (first | (apply decide_eq_true; omega) | (simp only [zq1, zq2, zq3, zq4, zq5, zq6, zq7, zq8, zq9, zq10, zq11, zq12] <;> omega) | rfl)) | (refine Cnd.ff ?_ ?_; focus (first | (apply decide_eq_false; omega) | (simp only [zq1, zq2, zq3, zq4, zq5, zq6, zq7, zq8, zq9, zq10, zq11, zq12] <;> omega) | rfl))))
      conv => whnf
      rw [e2]
      refine ⟨true, n, 16 * i + 4 * k, c, 4, rfl, rfl, by omega, hn, hc, ?_⟩
      rw [hasL hi (by omega), if_pos rfl, show getN c (16 * i + 4 * k) (Int.toNat 4) = W k from by rw [hW]; rfl]
      repeat ((conv => whnf); (first | refine Cnd.yes ?_ | refine Cnd.no ?_ | refine And.intro rfl ?_ | refine And.intro (by omega) ?_ | (refine And.intro ?_ ?_; focus (simp only [IntKind.wrap_i64, IntKind.wrap_u64, IntKind.wrap_u32]; omega)) | (refine And.intro ?_ ?_; focus (simp only [zl1, zl2, zl3, zl4, zl5, zl6, zl7, zl8] <;> omega)) | (refine Cnd.tt ?_ ?_; focus (first | (apply decide_eq_true; omega) | (simp only [zq1, zq2, zq3, zq4, zq5, zq6, zq7, zq8, zq9, zq10, zq11, zq12] <;> omega) | rfl)) | (refine Cnd.ff ?_ ?_; focus (first | (apply decide_eq_false; omega) | (simp only [zq1, zq2, zq3, zq4, zq5, zq6, zq7, zq8, zq9, zq10, zq11, zq12] <;> omega) | rfl))))
      conv => whnf
      rcases (show k = 0 ∨ k = 1 ∨ k = 2 ∨ k = 3 by omega) with rfl | rfl | rfl | rfl
      · refine ⟨0, rfl, by omega, ?_⟩
        repeat ((conv => whnf); (first | refine Cnd.yes ?_ | refine Cnd.no ?_ | refine And.intro rfl ?_ | refine And.intro (by omega) ?_ | (refine And.intro ?_ ?_; focus (simp only [IntKind.wrap_i64, IntKind.wrap_u64, IntKind.wrap_u32]; omega)) | (refine And.intro ?_ ?_; focus (simp only [zl1, zl2, zl3, zl4, zl5, zl6, zl7, zl8] <;> omega)) | (refine Cnd.tt ?_ ?_; focus (first | (apply decide_eq_true; omega) | (simp only [zq1, zq2, zq3, zq4, zq5, zq6, zq7, zq8, zq9, zq10, zq11, zq12] <;> omega) | rfl)) | (refine Cnd.ff ?_ ?_; focus (first | (apply decide_eq_false; omega) | (simp only [zq1, zq2, zq3, zq4, zq5, zq6, zq7, zq8, zq9, zq10, zq11, zq12] <;> omega) | rfl))))
        conv => whnf
        (refine ⟨(fun s : Nat => 4 - s) (1), [0, 1, 2, 3], tmk 39 0 ((fun s : Nat => [(0, .ptr 0 0 0 0), (1, .v (.int .i64 i)), (4, .ptr 2 0 0 0), (6, .ptr 3 0 0 0), (7, .v (.int .i64 s))]) (1)), (fun s : Nat => xHp true n c ++ [.cells 34 [wW 0, wW 0, wW 0, wW 0], .cells 34 (lnT W s)]) (1), ?_, ?_⟩; focus (first | (simp only []; omega) | omega))
        repeat ((conv => whnf); (first | refine Cnd.yes ?_ | refine Cnd.no ?_ | refine And.intro rfl ?_ | refine And.intro (by omega) ?_ | (refine And.intro ?_ ?_; focus (simp only [IntKind.wrap_i64, IntKind.wrap_u64, IntKind.wrap_u32]; omega)) | (refine And.intro ?_ ?_; focus (simp only [zl1, zl2, zl3, zl4, zl5, zl6, zl7, zl8] <;> omega))))
        conv => whnf
        exact ⟨1, (show 1 ≤ 4 by omega), rfl, rfl, (tmkK_eq _ _ _ _).mpr rfl, rfl⟩
      · refine ⟨1, rfl, by omega, ?_⟩
        repeat ((conv => whnf); (first | refine Cnd.yes ?_ | refine Cnd.no ?_ | refine And.intro rfl ?_ | refine And.intro (by omega) ?_ | (refine And.intro ?_ ?_; focus (simp only [IntKind.wrap_i64, IntKind.wrap_u64, IntKind.wrap_u32]; omega)) | (refine And.intro ?_ ?_; focus (simp only [zl1, zl2, zl3, zl4, zl5, zl6, zl7, zl8] <;> omega)) | (refine Cnd.tt ?_ ?_; focus (first | (apply decide_eq_true; omega) | (simp only [zq1, zq2, zq3, zq4, zq5, zq6, zq7, zq8, zq9, zq10, zq11, zq12] <;> omega) | rfl)) | (refine Cnd.ff ?_ ?_; focus (first | (apply decide_eq_false; omega) | (simp only [zq1, zq2, zq3, zq4, zq5, zq6, zq7, zq8, zq9, zq10, zq11, zq12] <;> omega) | rfl))))
        conv => whnf
        (refine ⟨(fun s : Nat => 4 - s) (2), [0, 1, 2, 3], tmk 39 0 ((fun s : Nat => [(0, .ptr 0 0 0 0), (1, .v (.int .i64 i)), (4, .ptr 2 0 0 0), (6, .ptr 3 0 0 0), (7, .v (.int .i64 s))]) (2)), (fun s : Nat => xHp true n c ++ [.cells 34 [wW 0, wW 0, wW 0, wW 0], .cells 34 (lnT W s)]) (2), ?_, ?_⟩; focus (first | (simp only []; omega) | omega))
        repeat ((conv => whnf); (first | refine Cnd.yes ?_ | refine Cnd.no ?_ | refine And.intro rfl ?_ | refine And.intro (by omega) ?_ | (refine And.intro ?_ ?_; focus (simp only [IntKind.wrap_i64, IntKind.wrap_u64, IntKind.wrap_u32]; omega)) | (refine And.intro ?_ ?_; focus (simp only [zl1, zl2, zl3, zl4, zl5, zl6, zl7, zl8] <;> omega))))
        conv => whnf
        exact ⟨2, (show 2 ≤ 4 by omega), rfl, rfl, (tmkK_eq _ _ _ _).mpr rfl, rfl⟩
      · refine ⟨2, rfl, by omega, ?_⟩
        repeat ((conv => whnf); (first | refine Cnd.yes ?_ | refine Cnd.no ?_ | refine And.intro rfl ?_ | refine And.intro (by omega) ?_ | (refine And.intro ?_ ?_; focus (simp only [IntKind.wrap_i64, IntKind.wrap_u64, IntKind.wrap_u32]; omega)) | (refine And.intro ?_ ?_; focus (simp only [zl1, zl2, zl3, zl4, zl5, zl6, zl7, zl8] <;> omega)) | (refine Cnd.tt ?_ ?_; focus (first | (apply decide_eq_true; omega) | (simp only [zq1, zq2, zq3, zq4, zq5, zq6, zq7, zq8, zq9, zq10, zq11, zq12] <;> omega) | rfl)) | (refine Cnd.ff ?_ ?_; focus (first | (apply decide_eq_false; omega) | (simp only [zq1, zq2, zq3, zq4, zq5, zq6, zq7, zq8, zq9, zq10, zq11, zq12] <;> omega) | rfl))))
        conv => whnf
        (refine ⟨(fun s : Nat => 4 - s) (3), [0, 1, 2, 3], tmk 39 0 ((fun s : Nat => [(0, .ptr 0 0 0 0), (1, .v (.int .i64 i)), (4, .ptr 2 0 0 0), (6, .ptr 3 0 0 0), (7, .v (.int .i64 s))]) (3)), (fun s : Nat => xHp true n c ++ [.cells 34 [wW 0, wW 0, wW 0, wW 0], .cells 34 (lnT W s)]) (3), ?_, ?_⟩; focus (first | (simp only []; omega) | omega))
        repeat ((conv => whnf); (first | refine Cnd.yes ?_ | refine Cnd.no ?_ | refine And.intro rfl ?_ | refine And.intro (by omega) ?_ | (refine And.intro ?_ ?_; focus (simp only [IntKind.wrap_i64, IntKind.wrap_u64, IntKind.wrap_u32]; omega)) | (refine And.intro ?_ ?_; focus (simp only [zl1, zl2, zl3, zl4, zl5, zl6, zl7, zl8] <;> omega))))
        conv => whnf
        exact ⟨3, (show 3 ≤ 4 by omega), rfl, rfl, (tmkK_eq _ _ _ _).mpr rfl, rfl⟩
      · refine ⟨3, rfl, by omega, ?_⟩
        repeat ((conv => whnf); (first | refine Cnd.yes ?_ | refine Cnd.no ?_ | refine And.intro rfl ?_ | refine And.intro (by omega) ?_ | (refine And.intro ?_ ?_; focus (simp only [IntKind.wrap_i64, IntKind.wrap_u64, IntKind.wrap_u32]; omega)) | (refine And.intro ?_ ?_; focus (simp only [zl1, zl2, zl3, zl4, zl5, zl6, zl7, zl8] <;> omega)) | (refine Cnd.tt ?_ ?_; focus (first | (apply decide_eq_true; omega) | (simp only [zq1, zq2, zq3, zq4, zq5, zq6, zq7, zq8, zq9, zq10, zq11, zq12] <;> omega) | rfl)) | (refine Cnd.ff ?_ ?_; focus (first | (apply decide_eq_false; omega) | (simp only [zq1, zq2, zq3, zq4, zq5, zq6, zq7, zq8, zq9, zq10, zq11, zq12] <;> omega) | rfl))))
        conv => whnf
        (refine ⟨(fun s : Nat => 4 - s) (4), [0, 1, 2, 3], tmk 39 0 ((fun s : Nat => [(0, .ptr 0 0 0 0), (1, .v (.int .i64 i)), (4, .ptr 2 0 0 0), (6, .ptr 3 0 0 0), (7, .v (.int .i64 s))]) (4)), (fun s : Nat => xHp true n c ++ [.cells 34 [wW 0, wW 0, wW 0, wW 0], .cells 34 (lnT W s)]) (4), ?_, ?_⟩; focus (first | (simp only []; omega) | omega))
        repeat ((conv => whnf); (first | refine Cnd.yes ?_ | refine Cnd.no ?_ | refine And.intro rfl ?_ | refine And.intro (by omega) ?_ | (refine And.intro ?_ ?_; focus (simp only [IntKind.wrap_i64, IntKind.wrap_u64, IntKind.wrap_u32]; omega)) | (refine And.intro ?_ ?_; focus (simp only [zl1, zl2, zl3, zl4, zl5, zl6, zl7, zl8] <;> omega))))
        conv => whnf
        exact ⟨4, (show 4 ≤ 4 by omega), rfl, rfl, (tmkK_eq _ _ _ _).mpr rfl, rfl⟩
end Go.Proofs.YtncninjgfllcdaaDoor
