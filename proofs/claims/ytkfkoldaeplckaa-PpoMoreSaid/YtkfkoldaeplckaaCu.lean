/-
  fit, walked: sizes may be, and lists are short.
-/
import Derived.Test.YtkfkoldaeplckaaCt
namespace Go.Proofs.Ytkfkoldaeplckaa
open Go Go.Vc
set_option maxRecDepth 100000
set_option linter.unusedSimpArgs false
set_option linter.unusedVariables false
set_option maxHeartbeats 4000000
def Short (x : Op) : Prop := x.da.length ≤ 40 ∧ x.dd.length ≤ 40 ∧ x.dc.length ≤ 40
def SzOK (x : Op) : Prop := x.k ≠ 4 → x.sz = 1 ∨ x.sz = 2 ∨ x.sz = 4
theorem chk_run (M : HL) (K : SV → List Ent → HL → Prop) (e e2 : TypeId) (y : Value) (l : List Op) (hl : l.length ≤ 9223372036854775807) (hR : Vc.RowsIn M e ock y (l.map orow)) (hO : ∀ x ∈ l, OIn M x)
    (hK : ∀ b : Bool, (b = true → ∀ x ∈ l, Short x) → K (.v (.bool b)) [.row true e2 [.sl] [[y]]] M) :
    runF G0 pf14 [.slc 0 1 0 1, .v (.int .i64 40)] [.row true e2 [.sl] [[y]]] M fun v hp2 M2 => ∃ m v' hp', Wk (llen [Ent.row true e2 [.sl] [[y]]]) m [v] hp2 [v'] hp' (K v' hp' M2) := by
  have hyl := hR.len
  rw [List.length_map] at hyl
  have c0 : slen (cellAt [[y]] (0 + ((0 : Nat) : Int).toNat) 0) = l.length := hyl
  repeat ((conv => whnf); (first | refine Cnd.yes ?_ | refine Cnd.no ?_ | refine And.intro rfl ?_ | refine And.intro (by omega) ?_ | (refine And.intro ?_ ?_; focus (simp only [IntKind.wrap_i64, IntKind.wrap_u64, IntKind.wrap_u32]; omega)) | (refine And.intro ?_ ?_; focus (simp only [zl1, zl2, zl3, zl4, zl5, zl6, zl7, zl8, zl9] <;> omega)) | refine Alt.std ?_ | (refine Cnd.tt ?_ ?_; focus (first | (apply decide_eq_true; omega) | (simp only [zq1, zq2, zq3, zq4, zq5, zq6, zq7, zq8, zq9, zq10, zq11, zq12] <;> omega) | rfl)) | (refine Cnd.ff ?_ ?_; focus (first | (apply decide_eq_false; omega) | (simp only [zq1, zq2, zq3, zq4, zq5, zq6, zq7, zq8, zq9, zq10, zq11, zq12] <;> omega) | rfl))))
  conv => whnf
  refine ⟨InvS 71 (fun s : Nat => 1 - s) (fun s : Nat => s ≤ 1 ∧ (s = 1 → l.length ≤ 40 → ∀ x ∈ l, Short x)) (fun s : Nat => [(0, .slc 0 1 0 1), (1, .v (.int .i64 40)), (5, .v (.int .i64 (s * l.length : Nat))), (6, .v (.int .i64 s))]) (fun s : Nat => [Ent.row true e2 [.sl] [[y]]]) M, ⟨(fun s : Nat => 1 - s) 0, [0], tmk 71 0 ((fun s : Nat => [(0, .slc 0 1 0 1), (1, .v (.int .i64 40)), (5, .v (.int .i64 (s * l.length : Nat))), (6, .v (.int .i64 s))]) 0), (fun s : Nat => [Ent.row true e2 [.sl] [[y]]]) 0, ?_⟩, ?_⟩
  · repeat ((conv => whnf); (first | refine Cnd.yes ?_ | refine Cnd.no ?_ | refine And.intro rfl ?_ | refine And.intro (by omega) ?_ | (refine And.intro ?_ ?_; focus (simp only [IntKind.wrap_i64, IntKind.wrap_u64, IntKind.wrap_u32]; omega)) | (refine And.intro ?_ ?_; focus (simp only [zl1, zl2, zl3, zl4, zl5, zl6, zl7, zl8, zl9] <;> omega)) | refine Alt.std ?_))
    conv => whnf
    exact ⟨0, ⟨Nat.zero_le _, fun h => by cases h⟩, rfl, rfl, (tmkK_eq _ _ _ _).mpr rfl, rfl⟩
  · rintro cnt tm hp M1 ⟨h, hC_, rfl, rfl, htm, hhp_⟩
    replace hC_ : h ≤ 1 ∧ (h = 1 → l.length ≤ 40 → ∀ x ∈ l, Short x) := hC_
    obtain ⟨hh, hsh⟩ := hC_
    replace htm : tmkK 71 0 [(0, .slc 0 1 0 1), (1, .v (.int .i64 40)), (5, .v (.int .i64 (h * l.length : Nat))), (6, .v (.int .i64 h))] (fun l => tm = l) := htm
    conv at htm => whnf
    subst htm
    replace hhp_ : hp = [Ent.row true e2 [.sl] [[y]]] := hhp_
    subst hhp_
    rcases (show h = 0 ∨ h = 1 by omega) with rfl | rfl
    · repeat ((conv => whnf); (first | refine Cnd.yes ?_ | refine Cnd.no ?_ | refine And.intro rfl ?_ | refine And.intro (by omega) ?_ | (refine And.intro ?_ ?_; focus (simp only [IntKind.wrap_i64, IntKind.wrap_u64, IntKind.wrap_u32]; omega)) | (refine And.intro ?_ ?_; focus (simp only [zl1, zl2, zl3, zl4, zl5, zl6, zl7, zl8, zl9] <;> omega)) | refine Alt.std ?_ | (refine Cnd.tt ?_ ?_; focus (first | (apply decide_eq_true; omega) | (simp only [zq1, zq2, zq3, zq4, zq5, zq6, zq7, zq8, zq9, zq10, zq11, zq12] <;> omega) | rfl)) | (refine Cnd.ff ?_ ?_; focus (first | (apply decide_eq_false; omega) | (simp only [zq1, zq2, zq3, zq4, zq5, zq6, zq7, zq8, zq9, zq10, zq11, zq12] <;> omega) | rfl))))
      conv => whnf
      rw [c0]
      refine ⟨InvS 71 (fun s : Nat => l.length - s) (fun s : Nat => s ≤ l.length ∧ ∀ j, j < s → Short (l.getD j default)) (fun s : Nat => [(0, .slc 0 1 0 1), (1, .v (.int .i64 40)), (5, .v (.int .i64 l.length)), (6, .v (.int .i64 (0 : Nat))), (7, .v (.int .i64 s))]) (fun s : Nat => [Ent.row true e2 [.sl] [[y]]]) M1, ⟨(fun s : Nat => l.length - s) 0, [0], tmk 71 0 ((fun s : Nat => [(0, .slc 0 1 0 1), (1, .v (.int .i64 40)), (5, .v (.int .i64 l.length)), (6, .v (.int .i64 (0 : Nat))), (7, .v (.int .i64 s))]) 0), (fun s : Nat => [Ent.row true e2 [.sl] [[y]]]) 0, ?_⟩, ?_⟩
      · repeat ((conv => whnf); (first | refine Cnd.yes ?_ | refine Cnd.no ?_ | refine And.intro rfl ?_ | refine And.intro (by omega) ?_ | (refine And.intro ?_ ?_; focus (simp only [IntKind.wrap_i64, IntKind.wrap_u64, IntKind.wrap_u32]; omega)) | (refine And.intro ?_ ?_; focus (simp only [zl1, zl2, zl3, zl4, zl5, zl6, zl7, zl8, zl9] <;> omega)) | refine Alt.std ?_))
        conv => whnf
        exact ⟨0, ⟨Nat.zero_le _, fun j hj => by omega⟩, rfl, rfl, (tmkK_eq _ _ _ _).mpr rfl, rfl⟩
      · rintro cnt tm hp M1 ⟨i, hC_, rfl, rfl, htm, hhp_⟩
        replace hC_ : i ≤ l.length ∧ ∀ j, j < i → Short (l.getD j default) := hC_
        obtain ⟨hi, hall⟩ := hC_
        replace htm : tmkK 71 0 [(0, .slc 0 1 0 1), (1, .v (.int .i64 40)), (5, .v (.int .i64 l.length)), (6, .v (.int .i64 (0 : Nat))), (7, .v (.int .i64 i))] (fun l => tm = l) := htm
        conv at htm => whnf
        subst htm
        replace hhp_ : hp = [Ent.row true e2 [.sl] [[y]]] := hhp_
        subst hhp_
        by_cases hin : i < l.length
        · by_cases h40 : i ≤ 40
          · obtain ⟨x, hx⟩ : ∃ x, x = l.getD i default := ⟨_, rfl⟩
            have hOx := hO (l.getD i default) (by simp [List.getD, hin])
            have hc : ∀ k, cellAt (l.map orow) (i : Int).toNat k = (orow (l.getD i default)).getD k undef := fun k => by
              rw [Int.toNat_natCast]
              simp [cellAt, List.getD, hin]
            rw [← hx] at hOx hc
            obtain ⟨⟨_, ha⟩, ⟨_, hd⟩, ⟨_, hcc⟩⟩ := hOx
            have la := ha.len
            have ld := hd.len
            have lc := hcc.len
            rw [List.length_map] at la ld lc
            have d10 : slen (cellAt (l.map orow) (i : Int).toNat (0 + 1 + 1 + 1 + 1 + 1 + 1 + 1 + 1 + 1 + 1)) = x.da.length := by rw [hc]; exact la
            have d11 : slen (cellAt (l.map orow) (i : Int).toNat (0 + 1 + 1 + 1 + 1 + 1 + 1 + 1 + 1 + 1 + 1 + 1)) = x.dd.length := by rw [hc]; exact ld
            have d12 : slen (cellAt (l.map orow) (i : Int).toNat (0 + 1 + 1 + 1 + 1 + 1 + 1 + 1 + 1 + 1 + 1 + 1 + 1)) = x.dc.length := by rw [hc]; exact lc
            repeat ((conv => whnf); (first | refine Cnd.yes ?_ | refine Cnd.no ?_ | refine And.intro rfl ?_ | refine And.intro (by omega) ?_ | (refine And.intro ?_ ?_; focus (simp only [IntKind.wrap_i64, IntKind.wrap_u64, IntKind.wrap_u32]; omega)) | (refine And.intro ?_ ?_; focus (simp only [zl1, zl2, zl3, zl4, zl5, zl6, zl7, zl8, zl9] <;> omega)) | refine Alt.std ?_ | (refine Cnd.tt ?_ ?_; focus (first | (apply decide_eq_true; omega) | (simp only [zq1, zq2, zq3, zq4, zq5, zq6, zq7, zq8, zq9, zq10, zq11, zq12] <;> omega) | rfl)) | (refine Cnd.ff ?_ ?_; focus (first | (apply decide_eq_false; omega) | (simp only [zq1, zq2, zq3, zq4, zq5, zq6, zq7, zq8, zq9, zq10, zq11, zq12] <;> omega) | rfl))))
            conv => whnf
            refine ⟨e, ock, l.map orow, hR, ?_⟩
            repeat ((conv => whnf); (first | refine Cnd.yes ?_ | refine Cnd.no ?_ | refine And.intro rfl ?_ | refine And.intro (by omega) ?_ | (refine And.intro ?_ ?_; focus (simp only [IntKind.wrap_i64, IntKind.wrap_u64, IntKind.wrap_u32]; omega)) | (refine And.intro ?_ ?_; focus (simp only [zl1, zl2, zl3, zl4, zl5, zl6, zl7, zl8, zl9] <;> omega)) | refine Alt.std ?_ | (refine Cnd.tt ?_ ?_; focus (first | (apply decide_eq_true; omega) | (simp only [zq1, zq2, zq3, zq4, zq5, zq6, zq7, zq8, zq9, zq10, zq11, zq12] <;> omega) | rfl)) | (refine Cnd.ff ?_ ?_; focus (first | (apply decide_eq_false; omega) | (simp only [zq1, zq2, zq3, zq4, zq5, zq6, zq7, zq8, zq9, zq10, zq11, zq12] <;> omega) | rfl))))
            conv => whnf
            by_cases h1 : 40 < x.da.length
            · repeat ((conv => whnf); (first | refine Cnd.yes ?_ | refine Cnd.no ?_ | refine And.intro rfl ?_ | refine And.intro (by omega) ?_ | (refine And.intro ?_ ?_; focus (simp only [IntKind.wrap_i64, IntKind.wrap_u64, IntKind.wrap_u32]; omega)) | (refine And.intro ?_ ?_; focus (simp only [zl1, zl2, zl3, zl4, zl5, zl6, zl7, zl8, zl9] <;> omega)) | refine Alt.std ?_ | (refine Cnd.tt ?_ ?_; focus (first | (apply decide_eq_true; omega) | (simp only [zq1, zq2, zq3, zq4, zq5, zq6, zq7, zq8, zq9, zq10, zq11, zq12] <;> omega) | rfl)) | (refine Cnd.ff ?_ ?_; focus (first | (apply decide_eq_false; omega) | (simp only [zq1, zq2, zq3, zq4, zq5, zq6, zq7, zq8, zq9, zq10, zq11, zq12] <;> omega) | rfl))))
              conv => whnf
              refine ⟨[0], .v (.bool false), [.row true e2 [.sl] [[y]]], ?_⟩
              repeat ((conv => whnf); (first | refine Cnd.yes ?_ | refine Cnd.no ?_ | refine And.intro rfl ?_ | refine And.intro (by omega) ?_ | (refine And.intro ?_ ?_; focus (simp only [IntKind.wrap_i64, IntKind.wrap_u64, IntKind.wrap_u32]; omega)) | (refine And.intro ?_ ?_; focus (simp only [zl1, zl2, zl3, zl4, zl5, zl6, zl7, zl8, zl9] <;> omega)) | refine Alt.std ?_))
              conv => whnf
              exact hK false (fun h => by cases h)
            · by_cases h2 : 40 < x.dd.length
              · repeat ((conv => whnf); (first | refine Cnd.yes ?_ | refine Cnd.no ?_ | refine And.intro rfl ?_ | refine And.intro (by omega) ?_ | (refine And.intro ?_ ?_; focus (simp only [IntKind.wrap_i64, IntKind.wrap_u64, IntKind.wrap_u32]; omega)) | (refine And.intro ?_ ?_; focus (simp only [zl1, zl2, zl3, zl4, zl5, zl6, zl7, zl8, zl9] <;> omega)) | refine Alt.std ?_ | (refine Cnd.tt ?_ ?_; focus (first | (apply decide_eq_true; omega) | (simp only [zq1, zq2, zq3, zq4, zq5, zq6, zq7, zq8, zq9, zq10, zq11, zq12] <;> omega) | rfl)) | (refine Cnd.ff ?_ ?_; focus (first | (apply decide_eq_false; omega) | (simp only [zq1, zq2, zq3, zq4, zq5, zq6, zq7, zq8, zq9, zq10, zq11, zq12] <;> omega) | rfl))))
                conv => whnf
                refine ⟨[0], .v (.bool false), [.row true e2 [.sl] [[y]]], ?_⟩
                repeat ((conv => whnf); (first | refine Cnd.yes ?_ | refine Cnd.no ?_ | refine And.intro rfl ?_ | refine And.intro (by omega) ?_ | (refine And.intro ?_ ?_; focus (simp only [IntKind.wrap_i64, IntKind.wrap_u64, IntKind.wrap_u32]; omega)) | (refine And.intro ?_ ?_; focus (simp only [zl1, zl2, zl3, zl4, zl5, zl6, zl7, zl8, zl9] <;> omega)) | refine Alt.std ?_))
                conv => whnf
                exact hK false (fun h => by cases h)
              · by_cases h3 : 40 < x.dc.length
                · repeat ((conv => whnf); (first | refine Cnd.yes ?_ | refine Cnd.no ?_ | refine And.intro rfl ?_ | refine And.intro (by omega) ?_ | (refine And.intro ?_ ?_; focus (simp only [IntKind.wrap_i64, IntKind.wrap_u64, IntKind.wrap_u32]; omega)) | (refine And.intro ?_ ?_; focus (simp only [zl1, zl2, zl3, zl4, zl5, zl6, zl7, zl8, zl9] <;> omega)) | refine Alt.std ?_ | (refine Cnd.tt ?_ ?_; focus (first | (apply decide_eq_true; omega) | (simp only [zq1, zq2, zq3, zq4, zq5, zq6, zq7, zq8, zq9, zq10, zq11, zq12] <;> omega) | rfl)) | (refine Cnd.ff ?_ ?_; focus (first | (apply decide_eq_false; omega) | (simp only [zq1, zq2, zq3, zq4, zq5, zq6, zq7, zq8, zq9, zq10, zq11, zq12] <;> omega) | rfl))))
                  conv => whnf
                  refine ⟨[0], .v (.bool false), [.row true e2 [.sl] [[y]]], ?_⟩
                  repeat ((conv => whnf); (first | refine Cnd.yes ?_ | refine Cnd.no ?_ | refine And.intro rfl ?_ | refine And.intro (by omega) ?_ | (refine And.intro ?_ ?_; focus (simp only [IntKind.wrap_i64, IntKind.wrap_u64, IntKind.wrap_u32]; omega)) | (refine And.intro ?_ ?_; focus (simp only [zl1, zl2, zl3, zl4, zl5, zl6, zl7, zl8, zl9] <;> omega)) | refine Alt.std ?_))
                  conv => whnf
                  exact hK false (fun h => by cases h)
                · have hall' : ∀ j, j < i + 1 → Short (l.getD j default) := fun j hj => by
                    rcases Nat.lt_succ_iff_lt_or_eq.1 hj with h | rfl
                    · exact hall j h
                    · rw [← hx]; exact ⟨by omega, by omega, by omega⟩
                  repeat ((conv => whnf); (first | refine Cnd.yes ?_ | refine Cnd.no ?_ | refine And.intro rfl ?_ | refine And.intro (by omega) ?_ | (refine And.intro ?_ ?_; focus (simp only [IntKind.wrap_i64, IntKind.wrap_u64, IntKind.wrap_u32]; omega)) | (refine And.intro ?_ ?_; focus (simp only [zl1, zl2, zl3, zl4, zl5, zl6, zl7, zl8, zl9] <;> omega)) | refine Alt.std ?_ | (refine Cnd.tt ?_ ?_; focus (first | (apply decide_eq_true; omega) | (simp only [zq1, zq2, zq3, zq4, zq5, zq6, zq7, zq8, zq9, zq10, zq11, zq12] <;> omega) | rfl)) | (refine Cnd.ff ?_ ?_; focus (first | (apply decide_eq_false; omega) | (simp only [zq1, zq2, zq3, zq4, zq5, zq6, zq7, zq8, zq9, zq10, zq11, zq12] <;> omega) | rfl))))
                  conv => whnf
                  (refine ⟨(fun s : Nat => l.length - s) (i + 1), [0], tmk 71 0 ((fun s : Nat => [(0, .slc 0 1 0 1), (1, .v (.int .i64 40)), (5, .v (.int .i64 l.length)), (6, .v (.int .i64 (0 : Nat))), (7, .v (.int .i64 s))]) (i + 1)), (fun s : Nat => [Ent.row true e2 [.sl] [[y]]]) (i + 1), ?_, ?_⟩; focus (first | (simp only []; omega) | omega))
                  repeat ((conv => whnf); (first | refine Cnd.yes ?_ | refine Cnd.no ?_ | refine And.intro rfl ?_ | refine And.intro (by omega) ?_ | (refine And.intro ?_ ?_; focus (simp only [IntKind.wrap_i64, IntKind.wrap_u64, IntKind.wrap_u32]; omega)) | (refine And.intro ?_ ?_; focus (simp only [zl1, zl2, zl3, zl4, zl5, zl6, zl7, zl8, zl9] <;> omega)) | refine Alt.std ?_))
                  conv => whnf
                  exact ⟨i + 1, ⟨hin, hall'⟩, rfl, rfl, (tmkK_eq _ _ _ _).mpr rfl, rfl⟩
          · repeat ((conv => whnf); (first | refine Cnd.yes ?_ | refine Cnd.no ?_ | refine And.intro rfl ?_ | refine And.intro (by omega) ?_ | (refine And.intro ?_ ?_; focus (simp only [IntKind.wrap_i64, IntKind.wrap_u64, IntKind.wrap_u32]; omega)) | (refine And.intro ?_ ?_; focus (simp only [zl1, zl2, zl3, zl4, zl5, zl6, zl7, zl8, zl9] <;> omega)) | refine Alt.std ?_ | (refine Cnd.tt ?_ ?_; focus (first | (apply decide_eq_true; omega) | (simp only [zq1, zq2, zq3, zq4, zq5, zq6, zq7, zq8, zq9, zq10, zq11, zq12] <;> omega) | rfl)) | (refine Cnd.ff ?_ ?_; focus (first | (apply decide_eq_false; omega) | (simp only [zq1, zq2, zq3, zq4, zq5, zq6, zq7, zq8, zq9, zq10, zq11, zq12] <;> omega) | rfl))))
            conv => whnf
            (refine ⟨(fun s : Nat => 1 - s) (1), [0], tmk 71 0 ((fun s : Nat => [(0, .slc 0 1 0 1), (1, .v (.int .i64 40)), (5, .v (.int .i64 (s * l.length : Nat))), (6, .v (.int .i64 s))]) (1)), (fun s : Nat => [Ent.row true e2 [.sl] [[y]]]) (1), ?_, ?_⟩; focus (first | (simp only []; omega) | omega))
            repeat ((conv => whnf); (first | refine Cnd.yes ?_ | refine Cnd.no ?_ | refine And.intro rfl ?_ | refine And.intro (by omega) ?_ | (refine And.intro ?_ ?_; focus (simp only [IntKind.wrap_i64, IntKind.wrap_u64, IntKind.wrap_u32]; omega)) | (refine And.intro ?_ ?_; focus (simp only [zl1, zl2, zl3, zl4, zl5, zl6, zl7, zl8, zl9] <;> omega)) | refine Alt.std ?_))
            conv => whnf
            exact ⟨1, ⟨Nat.le_refl _, fun _ h => by omega⟩, rfl, rfl, (tmkK_eq _ _ _ _).mpr rfl, rfl⟩
        · have hsh' : ∀ x ∈ l, Short x := fun x hx => by
            obtain ⟨j, hj, rfl⟩ := List.getElem_of_mem hx
            have := hall j (by omega)
            simpa [List.getD, hj] using this
          repeat ((conv => whnf); (first | refine Cnd.yes ?_ | refine Cnd.no ?_ | refine And.intro rfl ?_ | refine And.intro (by omega) ?_ | (refine And.intro ?_ ?_; focus (simp only [IntKind.wrap_i64, IntKind.wrap_u64, IntKind.wrap_u32]; omega)) | (refine And.intro ?_ ?_; focus (simp only [zl1, zl2, zl3, zl4, zl5, zl6, zl7, zl8, zl9] <;> omega)) | refine Alt.std ?_ | (refine Cnd.tt ?_ ?_; focus (first | (apply decide_eq_true; omega) | (simp only [zq1, zq2, zq3, zq4, zq5, zq6, zq7, zq8, zq9, zq10, zq11, zq12] <;> omega) | rfl)) | (refine Cnd.ff ?_ ?_; focus (first | (apply decide_eq_false; omega) | (simp only [zq1, zq2, zq3, zq4, zq5, zq6, zq7, zq8, zq9, zq10, zq11, zq12] <;> omega) | rfl))))
          conv => whnf
          (refine ⟨(fun s : Nat => 1 - s) (1), [0], tmk 71 0 ((fun s : Nat => [(0, .slc 0 1 0 1), (1, .v (.int .i64 40)), (5, .v (.int .i64 (s * l.length : Nat))), (6, .v (.int .i64 s))]) (1)), (fun s : Nat => [Ent.row true e2 [.sl] [[y]]]) (1), ?_, ?_⟩; focus (first | (simp only []; omega) | omega))
          repeat ((conv => whnf); (first | refine Cnd.yes ?_ | refine Cnd.no ?_ | refine And.intro rfl ?_ | refine And.intro (by omega) ?_ | (refine And.intro ?_ ?_; focus (simp only [IntKind.wrap_i64, IntKind.wrap_u64, IntKind.wrap_u32]; omega)) | (refine And.intro ?_ ?_; focus (simp only [zl1, zl2, zl3, zl4, zl5, zl6, zl7, zl8, zl9] <;> omega)) | refine Alt.std ?_))
          conv => whnf
          exact ⟨1, ⟨Nat.le_refl _, fun _ _ => hsh'⟩, rfl, rfl, (tmkK_eq _ _ _ _).mpr rfl, rfl⟩
    · repeat ((conv => whnf); (first | refine Cnd.yes ?_ | refine Cnd.no ?_ | refine And.intro rfl ?_ | refine And.intro (by omega) ?_ | (refine And.intro ?_ ?_; focus (simp only [IntKind.wrap_i64, IntKind.wrap_u64, IntKind.wrap_u32]; omega)) | (refine And.intro ?_ ?_; focus (simp only [zl1, zl2, zl3, zl4, zl5, zl6, zl7, zl8, zl9] <;> omega)) | refine Alt.std ?_ | (refine Cnd.tt ?_ ?_; focus (first | (apply decide_eq_true; omega) | (simp only [zq1, zq2, zq3, zq4, zq5, zq6, zq7, zq8, zq9, zq10, zq11, zq12] <;> omega) | rfl)) | (refine Cnd.ff ?_ ?_; focus (first | (apply decide_eq_false; omega) | (simp only [zq1, zq2, zq3, zq4, zq5, zq6, zq7, zq8, zq9, zq10, zq11, zq12] <;> omega) | rfl))))
      conv => whnf
      refine ⟨[0], .v (.bool (decide ((((1 * l.length : Nat)) : Int) ≤ 40))), [.row true e2 [.sl] [[y]]], ?_⟩
      repeat ((conv => whnf); (first | refine Cnd.yes ?_ | refine Cnd.no ?_ | refine And.intro rfl ?_ | refine And.intro (by omega) ?_ | (refine And.intro ?_ ?_; focus (simp only [IntKind.wrap_i64, IntKind.wrap_u64, IntKind.wrap_u32]; omega)) | (refine And.intro ?_ ?_; focus (simp only [zl1, zl2, zl3, zl4, zl5, zl6, zl7, zl8, zl9] <;> omega)) | refine Alt.std ?_))
      conv => whnf
      exact hK _ fun hb => hsh rfl (by have := of_decide_eq_true hb; omega)
def chkS : Vc.Spec := fun args hp M K => ∃ (e e2 : TypeId) (y : Value) (l : List Op), args = [.slc 0 1 0 1, .v (.int .i64 40)] ∧ hp = [.row true e2 [.sl] [[y]]] ∧ l.length ≤ 9223372036854775807 ∧ Vc.RowsIn M e ock y (l.map orow) ∧ (∀ x ∈ l, OIn M x) ∧ ∀ b : Bool, (b = true → ∀ x ∈ l, Short x) → K (.v (.bool b)) [.row true e2 [.sl] [[y]]]
theorem chk_ok : SOK Try.prog 14 chkS := by
  refine TOK.weaken (TOK.out (runF_eq G0_ok mixed at14.1 at14.2 pf14_eq)) fun args hp M K h => ?_
  obtain ⟨e, e2, y, l, rfl, rfl, h1, h2, h3, h4⟩ := h
  exact chk_run M K e e2 y l h1 h2 h3 h4
noncomputable def specsU : Nat → Option Vc.Trans := tget [(14, frameT chkS)]
noncomputable def GU : Nat → Option Vc.Trans := tabG specsU (tget tab) 5
theorem GU_ok : GOK Try.prog GU := tabG_ok (GOK.cons (frame_ok chk_ok) .nil) tab_ok 5
theorem fit_run (M : HL) (K : SV → List Ent → HL → Prop) (e : TypeId) (l : List Op) (hl : l.length ≤ 9223372036854775807) (hO : ∀ x ∈ l, OIn M x)
    (hK : ∀ b : Bool, (b = true → ∀ x ∈ l, Short x ∧ SzOK x) → K (.v (.bool b)) [.row false e ock (l.map orow)] M) :
    runF GU pf9 [.slc 0 13 0 l.length] [.row false e ock (l.map orow)] M fun v hp2 M2 => ∃ m v' hp', Wk (llen [Ent.row false e ock (l.map orow)]) m [v] hp2 [v'] hp' (K v' hp' M2) := by
  repeat ((conv => whnf); (first | refine Cnd.yes ?_ | refine Cnd.no ?_ | refine And.intro rfl ?_ | refine And.intro (by omega) ?_ | (refine And.intro ?_ ?_; focus (simp only [IntKind.wrap_i64, IntKind.wrap_u64, IntKind.wrap_u32]; omega)) | (refine And.intro ?_ ?_; focus (simp only [zl1, zl2, zl3, zl4, zl5, zl6, zl7, zl8, zl9] <;> omega)) | refine Alt.std ?_ | (refine Cnd.tt ?_ ?_; focus (first | (apply decide_eq_true; omega) | (simp only [zq1, zq2, zq3, zq4, zq5, zq6, zq7, zq8, zq9, zq10, zq11, zq12] <;> omega) | rfl)) | (refine Cnd.ff ?_ ?_; focus (first | (apply decide_eq_false; omega) | (simp only [zq1, zq2, zq3, zq4, zq5, zq6, zq7, zq8, zq9, zq10, zq11, zq12] <;> omega) | rfl))))
  conv => whnf
  refine ⟨InvS 37 (fun s : Nat => l.length - s) (fun s : Nat => s ≤ l.length ∧ ∀ j, j < s → SzOK (l.getD j default)) (fun s : Nat => [(0, .slc 0 13 0 l.length), (3, .v (.int .i64 s))]) (fun s : Nat => [Ent.row false e ock (l.map orow)]) M, ⟨(fun s : Nat => l.length - s) 0, [0], tmk 37 0 ((fun s : Nat => [(0, .slc 0 13 0 l.length), (3, .v (.int .i64 s))]) 0), (fun s : Nat => [Ent.row false e ock (l.map orow)]) 0, ?_⟩, ?_⟩
  · repeat ((conv => whnf); (first | refine Cnd.yes ?_ | refine Cnd.no ?_ | refine And.intro rfl ?_ | refine And.intro (by omega) ?_ | (refine And.intro ?_ ?_; focus (simp only [IntKind.wrap_i64, IntKind.wrap_u64, IntKind.wrap_u32]; omega)) | (refine And.intro ?_ ?_; focus (simp only [zl1, zl2, zl3, zl4, zl5, zl6, zl7, zl8, zl9] <;> omega)) | refine Alt.std ?_))
    conv => whnf
    exact ⟨0, ⟨Nat.zero_le _, fun j hj => by omega⟩, rfl, rfl, (tmkK_eq _ _ _ _).mpr rfl, rfl⟩
  · rintro cnt tm hp M1 ⟨i, hC_, rfl, rfl, htm, hhp_⟩
    replace hC_ : i ≤ l.length ∧ ∀ j, j < i → SzOK (l.getD j default) := hC_
    obtain ⟨hi, hall⟩ := hC_
    replace htm : tmkK 37 0 [(0, .slc 0 13 0 l.length), (3, .v (.int .i64 i))] (fun l => tm = l) := htm
    conv at htm => whnf
    subst htm
    replace hhp_ : hp = [Ent.row false e ock (l.map orow)] := hhp_
    subst hhp_
    repeat ((conv => whnf); (first | refine Cnd.yes ?_ | refine Cnd.no ?_ | refine And.intro rfl ?_ | refine And.intro (by omega) ?_ | (refine And.intro ?_ ?_; focus (simp only [IntKind.wrap_i64, IntKind.wrap_u64, IntKind.wrap_u32]; omega)) | (refine And.intro ?_ ?_; focus (simp only [zl1, zl2, zl3, zl4, zl5, zl6, zl7, zl8, zl9] <;> omega)) | refine Alt.std ?_ | (refine Cnd.tt ?_ ?_; focus (first | (apply decide_eq_true; omega) | (simp only [zq1, zq2, zq3, zq4, zq5, zq6, zq7, zq8, zq9, zq10, zq11, zq12] <;> omega) | rfl)) | (refine Cnd.ff ?_ ?_; focus (first | (apply decide_eq_false; omega) | (simp only [zq1, zq2, zq3, zq4, zq5, zq6, zq7, zq8, zq9, zq10, zq11, zq12] <;> omega) | rfl))))
    conv => whnf
    refine Cnd.mk (fun hlt => ?_) fun hge => ?_
    · have hin : i < l.length := by have := of_decide_eq_true hlt; omega
      have hc : ∀ k, cellAt (l.map orow) (0 + (i : Int).toNat) k = (orow (l.getD i default)).getD k undef := fun k => by
        rw [Nat.zero_add, Int.toNat_natCast]
        simp [cellAt, List.getD, hin]
      have c0 : toI (cellAt (l.map orow) (0 + (i : Int).toNat) (0 + 0)) = (l.getD i default).k := by rw [hc]; rfl
      have c1 : toI (cellAt (l.map orow) (0 + (i : Int).toNat) (0 + 1)) = (l.getD i default).sz := by rw [hc]; rfl
      repeat ((conv => whnf); (first | refine Cnd.yes ?_ | refine Cnd.no ?_ | refine And.intro rfl ?_ | refine And.intro (by omega) ?_ | (refine And.intro ?_ ?_; focus (simp only [IntKind.wrap_i64, IntKind.wrap_u64, IntKind.wrap_u32]; omega)) | (refine And.intro ?_ ?_; focus (simp only [zl1, zl2, zl3, zl4, zl5, zl6, zl7, zl8, zl9] <;> omega)) | refine Alt.std ?_ | (refine Cnd.tt ?_ ?_; focus (first | (apply decide_eq_true; omega) | (simp only [zq1, zq2, zq3, zq4, zq5, zq6, zq7, zq8, zq9, zq10, zq11, zq12] <;> omega) | rfl)) | (refine Cnd.ff ?_ ?_; focus (first | (apply decide_eq_false; omega) | (simp only [zq1, zq2, zq3, zq4, zq5, zq6, zq7, zq8, zq9, zq10, zq11, zq12] <;> omega) | rfl))))
      conv => whnf
      rw [c0, c1]
      by_cases hok : SzOK (l.getD i default)
      · have hall' : ∀ j, j < i + 1 → SzOK (l.getD j default) := fun j hj => by
          rcases Nat.lt_succ_iff_lt_or_eq.1 hj with h | rfl
          · exact hall j h
          · exact hok
        unfold SzOK at hok
        obtain ⟨x, hx⟩ : ∃ x, x = l.getD i default := ⟨_, rfl⟩
        rw [← hx] at hok
        rw [← hx]
        by_cases h4 : x.k = 4
        · repeat ((conv => whnf); (first | refine Cnd.yes ?_ | refine Cnd.no ?_ | refine And.intro rfl ?_ | refine And.intro (by omega) ?_ | (refine And.intro ?_ ?_; focus (simp only [IntKind.wrap_i64, IntKind.wrap_u64, IntKind.wrap_u32]; omega)) | (refine And.intro ?_ ?_; focus (simp only [zl1, zl2, zl3, zl4, zl5, zl6, zl7, zl8, zl9] <;> omega)) | refine Alt.std ?_ | (refine Cnd.tt ?_ ?_; focus (first | (apply decide_eq_true; omega) | (simp only [zq1, zq2, zq3, zq4, zq5, zq6, zq7, zq8, zq9, zq10, zq11, zq12] <;> omega) | rfl)) | (refine Cnd.ff ?_ ?_; focus (first | (apply decide_eq_false; omega) | (simp only [zq1, zq2, zq3, zq4, zq5, zq6, zq7, zq8, zq9, zq10, zq11, zq12] <;> omega) | rfl))))
          conv => whnf
          (refine ⟨(fun s : Nat => l.length - s) (i + 1), [0], tmk 37 0 ((fun s : Nat => [(0, .slc 0 13 0 l.length), (3, .v (.int .i64 s))]) (i + 1)), (fun s : Nat => [Ent.row false e ock (l.map orow)]) (i + 1), ?_, ?_⟩; focus (first | (simp only []; omega) | omega))
          repeat ((conv => whnf); (first | refine Cnd.yes ?_ | refine Cnd.no ?_ | refine And.intro rfl ?_ | refine And.intro (by omega) ?_ | (refine And.intro ?_ ?_; focus (simp only [IntKind.wrap_i64, IntKind.wrap_u64, IntKind.wrap_u32]; omega)) | (refine And.intro ?_ ?_; focus (simp only [zl1, zl2, zl3, zl4, zl5, zl6, zl7, zl8, zl9] <;> omega)) | refine Alt.std ?_))
          conv => whnf
          exact ⟨i + 1, ⟨hin, hall'⟩, rfl, rfl, (tmkK_eq _ _ _ _).mpr rfl, rfl⟩
        · rcases hok h4 with h | h | h
          all_goals
            repeat ((conv => whnf); (first | refine Cnd.yes ?_ | refine Cnd.no ?_ | refine And.intro rfl ?_ | refine And.intro (by omega) ?_ | (refine And.intro ?_ ?_; focus (simp only [IntKind.wrap_i64, IntKind.wrap_u64, IntKind.wrap_u32]; omega)) | (refine And.intro ?_ ?_; focus (simp only [zl1, zl2, zl3, zl4, zl5, zl6, zl7, zl8, zl9] <;> omega)) | refine Alt.std ?_ | (refine Cnd.tt ?_ ?_; focus (first | (apply decide_eq_true; omega) | (simp only [zq1, zq2, zq3, zq4, zq5, zq6, zq7, zq8, zq9, zq10, zq11, zq12] <;> omega) | rfl)) | (refine Cnd.ff ?_ ?_; focus (first | (apply decide_eq_false; omega) | (simp only [zq1, zq2, zq3, zq4, zq5, zq6, zq7, zq8, zq9, zq10, zq11, zq12] <;> omega) | rfl))))
            conv => whnf
            (refine ⟨(fun s : Nat => l.length - s) (i + 1), [0], tmk 37 0 ((fun s : Nat => [(0, .slc 0 13 0 l.length), (3, .v (.int .i64 s))]) (i + 1)), (fun s : Nat => [Ent.row false e ock (l.map orow)]) (i + 1), ?_, ?_⟩; focus (first | (simp only []; omega) | omega))
            repeat ((conv => whnf); (first | refine Cnd.yes ?_ | refine Cnd.no ?_ | refine And.intro rfl ?_ | refine And.intro (by omega) ?_ | (refine And.intro ?_ ?_; focus (simp only [IntKind.wrap_i64, IntKind.wrap_u64, IntKind.wrap_u32]; omega)) | (refine And.intro ?_ ?_; focus (simp only [zl1, zl2, zl3, zl4, zl5, zl6, zl7, zl8, zl9] <;> omega)) | refine Alt.std ?_))
            conv => whnf
            exact ⟨i + 1, ⟨hin, hall'⟩, rfl, rfl, (tmkK_eq _ _ _ _).mpr rfl, rfl⟩
      · obtain ⟨x, hx⟩ : ∃ x, x = l.getD i default := ⟨_, rfl⟩
        rw [← hx] at hok
        rw [← hx]
        obtain ⟨h4, hs1, hs2, hs4⟩ : x.k ≠ 4 ∧ x.sz ≠ 1 ∧ x.sz ≠ 2 ∧ x.sz ≠ 4 := by
          unfold SzOK at hok
          refine ⟨fun h => hok fun h' => absurd h h', fun h => hok fun _ => .inl h, fun h => hok fun _ => .inr (.inl h), fun h => hok fun _ => .inr (.inr h)⟩
        repeat ((conv => whnf); (first | refine Cnd.yes ?_ | refine Cnd.no ?_ | refine And.intro rfl ?_ | refine And.intro (by omega) ?_ | (refine And.intro ?_ ?_; focus (simp only [IntKind.wrap_i64, IntKind.wrap_u64, IntKind.wrap_u32]; omega)) | (refine And.intro ?_ ?_; focus (simp only [zl1, zl2, zl3, zl4, zl5, zl6, zl7, zl8, zl9] <;> omega)) | refine Alt.std ?_ | (refine Cnd.tt ?_ ?_; focus (first | (apply decide_eq_true; omega) | (simp only [zq1, zq2, zq3, zq4, zq5, zq6, zq7, zq8, zq9, zq10, zq11, zq12] <;> omega) | rfl)) | (refine Cnd.ff ?_ ?_; focus (first | (apply decide_eq_false; omega) | (simp only [zq1, zq2, zq3, zq4, zq5, zq6, zq7, zq8, zq9, zq10, zq11, zq12] <;> omega) | rfl))))
        conv => whnf
        refine ⟨[0], .v (.bool false), [.row false e ock (l.map orow)], ?_⟩
        repeat ((conv => whnf); (first | refine Cnd.yes ?_ | refine Cnd.no ?_ | refine And.intro rfl ?_ | refine And.intro (by omega) ?_ | (refine And.intro ?_ ?_; focus (simp only [IntKind.wrap_i64, IntKind.wrap_u64, IntKind.wrap_u32]; omega)) | (refine And.intro ?_ ?_; focus (simp only [zl1, zl2, zl3, zl4, zl5, zl6, zl7, zl8, zl9] <;> omega)) | refine Alt.std ?_))
        conv => whnf
        exact hK false (fun h => by cases h)
    · obtain rfl : i = l.length := by have := of_decide_eq_false hge; omega
      have hsz : ∀ x ∈ l, SzOK x := fun x hx => by
        obtain ⟨j, hj, rfl⟩ := List.getElem_of_mem hx
        have := hall j (by omega)
        simpa [List.getD, hj] using this
      repeat ((conv => whnf); (first | refine Cnd.yes ?_ | refine Cnd.no ?_ | refine And.intro rfl ?_ | refine And.intro (by omega) ?_ | (refine And.intro ?_ ?_; focus (simp only [IntKind.wrap_i64, IntKind.wrap_u64, IntKind.wrap_u32]; omega)) | (refine And.intro ?_ ?_; focus (simp only [zl1, zl2, zl3, zl4, zl5, zl6, zl7, zl8, zl9] <;> omega)) | refine Alt.std ?_ | (refine Cnd.tt ?_ ?_; focus (first | (apply decide_eq_true; omega) | (simp only [zq1, zq2, zq3, zq4, zq5, zq6, zq7, zq8, zq9, zq10, zq11, zq12] <;> omega) | rfl)) | (refine Cnd.ff ?_ ?_; focus (first | (apply decide_eq_false; omega) | (simp only [zq1, zq2, zq3, zq4, zq5, zq6, zq7, zq8, zq9, zq10, zq11, zq12] <;> omega) | rfl))))
      conv => whnf
      intro y hRy
      rw [List.drop_zero, List.take_of_length_le (by rw [List.length_map]; omega)] at hRy
      repeat ((conv => whnf); (first | refine Cnd.yes ?_ | refine Cnd.no ?_ | refine And.intro rfl ?_ | refine And.intro (by omega) ?_ | (refine And.intro ?_ ?_; focus (simp only [IntKind.wrap_i64, IntKind.wrap_u64, IntKind.wrap_u32]; omega)) | (refine And.intro ?_ ?_; focus (simp only [zl1, zl2, zl3, zl4, zl5, zl6, zl7, zl8, zl9] <;> omega)) | refine Alt.std ?_ | (refine Cnd.tt ?_ ?_; focus (first | (apply decide_eq_true; omega) | (simp only [zq1, zq2, zq3, zq4, zq5, zq6, zq7, zq8, zq9, zq10, zq11, zq12] <;> omega) | rfl)) | (refine Cnd.ff ?_ ?_; focus (first | (apply decide_eq_false; omega) | (simp only [zq1, zq2, zq3, zq4, zq5, zq6, zq7, zq8, zq9, zq10, zq11, zq12] <;> omega) | rfl))))
      conv => whnf
      refine ⟨e, 22, y, l, rfl, rfl, hl, hRy, hO, fun b hb => ?_⟩
      repeat ((conv => whnf); (first | refine Cnd.yes ?_ | refine Cnd.no ?_ | refine And.intro rfl ?_ | refine And.intro (by omega) ?_ | (refine And.intro ?_ ?_; focus (simp only [IntKind.wrap_i64, IntKind.wrap_u64, IntKind.wrap_u32]; omega)) | (refine And.intro ?_ ?_; focus (simp only [zl1, zl2, zl3, zl4, zl5, zl6, zl7, zl8, zl9] <;> omega)) | refine Alt.std ?_ | (refine Cnd.tt ?_ ?_; focus (first | (apply decide_eq_true; omega) | (simp only [zq1, zq2, zq3, zq4, zq5, zq6, zq7, zq8, zq9, zq10, zq11, zq12] <;> omega) | rfl)) | (refine Cnd.ff ?_ ?_; focus (first | (apply decide_eq_false; omega) | (simp only [zq1, zq2, zq3, zq4, zq5, zq6, zq7, zq8, zq9, zq10, zq11, zq12] <;> omega) | rfl))))
      conv => whnf
      refine ⟨[0], .v (.bool b), [.row false e ock (l.map orow)], ?_⟩
      repeat ((conv => whnf); (first | refine Cnd.yes ?_ | refine Cnd.no ?_ | refine And.intro rfl ?_ | refine And.intro (by omega) ?_ | (refine And.intro ?_ ?_; focus (simp only [IntKind.wrap_i64, IntKind.wrap_u64, IntKind.wrap_u32]; omega)) | (refine And.intro ?_ ?_; focus (simp only [zl1, zl2, zl3, zl4, zl5, zl6, zl7, zl8, zl9] <;> omega)) | refine Alt.std ?_))
      conv => whnf
      exact hK b fun h x hx => ⟨hb h x hx, hsz x hx⟩
def fitS : Vc.Spec := fun args hp M K => ∃ (e : TypeId) (l : List Op), args = [.slc 0 13 0 l.length] ∧ hp = [.row false e ock (l.map orow)] ∧ l.length ≤ 9223372036854775807 ∧ (∀ x ∈ l, OIn M x) ∧ ∀ b : Bool, (b = true → ∀ x ∈ l, Short x ∧ SzOK x) → K (.v (.bool b)) [.row false e ock (l.map orow)]
theorem fit_ok : SOK Try.prog 9 fitS := by
  refine TOK.weaken (TOK.out (runF_eq GU_ok mixed at9.1 at9.2 pf9_eq)) fun args hp M K h => ?_
  obtain ⟨e, l, rfl, rfl, h1, h2, h3⟩ := h
  exact fit_run M K e l h1 h2 h3
end Go.Proofs.Ytkfkoldaeplckaa
