/-
  LsqHits, walked.
-/
import Derived.Test.YtjbknaniihkcnaaDoorCj
namespace Go.Proofs.YtjbknaniihkcnaaDoor
open Go Go.Vc
set_option maxRecDepth 100000
set_option linter.unusedSimpArgs false
set_option linter.unusedVariables false
set_option maxHeartbeats 4000000
theorem eand64 (a : Nat) : IntKind.u32.wrap ((BitVec.ofInt IntKind.u32.bits ((a % 64 : Nat) : Int) &&& ~~~BitVec.ofInt IntKind.u32.bits 3).toNat : Int) = ((a % 64 - a % 64 % 4 : Nat) : Int) := by
  have h : ∀ a : Fin 64, IntKind.u32.wrap ((BitVec.ofInt IntKind.u32.bits ((a.val : Nat) : Int) &&& ~~~BitVec.ofInt IntKind.u32.bits 3).toNat : Int) = ((a.val - a.val % 4 : Nat) : Int) := by decide +kernel
  exact h ⟨a % 64, Nat.mod_lt _ (by omega)⟩
theorem ebit (a : Nat) (h : a < 4294967296) : IntKind.u32.wrap ((BitVec.ofInt IntKind.u32.bits ((a : Int).fdiv (2 ^ min (Int.toNat 8) IntKind.u32.bits)) &&& BitVec.ofInt IntKind.u32.bits 1).toNat : Int) = ((a / 256 % 2 : Nat) : Int) := by
  have e1 := shr32 (x := a) (low := 8) (by omega)
  have e2 := and32 (x := a / 2 ^ 8) (n := 1) (by have : a / 2 ^ 8 ≤ a := Nat.div_le_self _ _; omega) (by omega)
  rw [show (a : Int).fdiv (2 ^ min (Int.toNat 8) IntKind.u32.bits) = ((a / 2 ^ 8 : Nat) : Int) from e1]
  exact e2
def adH (a : Nat) : Nat := a % 64 - a % 64 % 4
/-- The j-th load. -/
def qH (E : Nat → Nat) (j : Nat) : Q7 := ⟨j, false, true, decide (E j / 256 % 2 = 0), (adH (E j) : Nat), 4, 0⟩
def HQ (E : Nat → Nat) (i : Nat) : List Q7 := (List.range i).map (qH E)
theorem HQ_len (E : Nat → Nat) (i : Nat) : (HQ E i).length = i := by simp [HQ]
theorem HQ_succ (E : Nat → Nat) (i : Nat) : HQ E (i + 1) = HQ E i ++ [qH E i] := by simp [HQ, List.range_succ]
theorem HQ_mem {E : Nat → Nat} {i : Nat} {y : Q7} (h : y ∈ HQ E i) : ∃ j, j < i ∧ y = qH E j := by
  obtain ⟨j, hj, rfl⟩ := List.mem_map.1 h
  exact ⟨j, List.mem_range.1 hj, rfl⟩
theorem HQ_last (E : Nat → Nat) (i : Nat) : lastId (HQ E i) < i := by
  cases i with
  | zero => show (-1 : Int) < 0; omega
  | succ i => rw [HQ_succ]; simp [lastId, qH]; omega
theorem HQ_ne {E : Nat → Nat} {i : Nat} : ∀ y ∈ HQ E i, y.id ≠ (i : Int) := fun y hy => by
  obtain ⟨j, hj, rfl⟩ := HQ_mem hy
  show (j : Int) ≠ i
  omega
/-- Those that are wanted among the first i. -/
def wantQ (E : Nat → Nat) (line cut : Nat) : Nat → List Int
  | 0 => []
  | i + 1 => wantQ E line cut i ++ if E i / 256 % 2 = 0 ∧ adH (E i) / 16 = line ∧ i ≤ cut then [(i : Int)] else []
theorem hitL_app (line : Int) (A B : List Q7) : hitL line (A ++ B) = hitL line A ++ hitL line B := by simp [hitL]
theorem want_eq (E : Nat → Nat) (line cut : Nat) : ∀ i, wantQ E line cut i = hitL line (HQ E (min i (cut + 1)))
  | 0 => rfl
  | i + 1 => by
    rw [wantQ, want_eq E line cut i]
    by_cases h : i ≤ cut
    · rw [show min (i + 1) (cut + 1) = i + 1 by omega, show min i (cut + 1) = i by omega, HQ_succ, hitL_app]
      congr 1
      by_cases h2 : E i / 256 % 2 = 0 ∧ adH (E i) / 16 = line
      · rw [if_pos ⟨h2.1, h2.2, h⟩]
        have : ((adH (E i) : Nat) : Int) / 16 = (line : Int) := by omega
        simp [hitL, hitQ, qH, h2.1, this]
      · rw [if_neg fun h3 => h2 ⟨h3.1, h3.2.1⟩]
        by_cases h3 : E i / 256 % 2 = 0
        · have : ¬ ((adH (E i) : Nat) : Int) / 16 = (line : Int) := fun h4 => h2 ⟨h3, by omega⟩
          simp [hitL, hitQ, qH, this]
        · simp [hitL, hitQ, qH, h3]
    · rw [show min (i + 1) (cut + 1) = cut + 1 by omega, show min i (cut + 1) = cut + 1 by omega, if_neg fun h3 => h h3.2.2, List.append_nil]
theorem HQ_split (E : Nat → Nat) {m n : Nat} (h : m ≤ n) : HQ E n = HQ E m ++ (List.range (n - m)).map (fun j => qH E (m + j)) := by
  obtain ⟨k, rfl⟩ : ∃ k, n = m + k := ⟨n - m, by omega⟩
  rw [Nat.add_sub_cancel_left, HQ, HQ, List.range_add, List.map_append, List.map_map]
  rfl
def hHp (e : TypeId) (l : List Nat) (E : Nat → Nat) (i : Nat) (W : List Int) : List Ent := [.row false e [.int .u32] (l.map wrow), .cells 56 [.v (.int .i64 40), .slc 2 7 0 i], .row true 61 qck ((HQ E i).map qrow ++ []), .row true 3 [.int .i64] (W.map irow)]
theorem wl1 {line : Nat} (h : line < 4) (a : Nat) : IntKind.i64.wrap ((IntKind.i64.wrap ((adH a : Nat) : Int)).tdiv 16) = ((adH a / 16 : Nat) : Int) := by
  have : adH a < 64 := by unfold adH; omega
  rw [show IntKind.i64.wrap ((adH a : Nat) : Int) = ((adH a : Nat) : Int) by rw [IntKind.wrap_i64]; omega, Int.tdiv_eq_ediv_of_nonneg (by omega), IntKind.wrap_i64]
  omega
theorem emod_nat (x : Int) (b : Nat) (hb : 0 < b) : ∃ k : Nat, k < b ∧ x % (b : Int) = k :=
  ⟨(x % (b : Int)).toNat, by have h0 := Int.emod_nonneg x (show (b : Int) ≠ 0 by omega); have h1 := Int.emod_lt_of_pos x (show (0 : Int) < b by omega); omega, by have h0 := Int.emod_nonneg x (show (b : Int) ≠ 0 by omega); omega⟩
theorem w_max {n cut m k : Nat} (hm : m = min n (cut + 1)) (hn : n ≤ 1000) (hc : cut ≤ 1000) (hk : k = n - m) : (k : Int) = if IntKind.i64.wrap (IntKind.i64.wrap ((n : Int) - 1) - cut) > 0 then IntKind.i64.wrap (IntKind.i64.wrap ((n : Int) - 1) - cut) else 0 := by
  rw [show IntKind.i64.wrap (IntKind.i64.wrap ((n : Int) - 1) - cut) = (n : Int) - 1 - cut by simp only [IntKind.wrap_i64]; omega]
  split <;> omega
theorem hits_run (M : HL) (K : SV → List Ent → HL → Prop) (e : TypeId) (l : List Nat) (x y : Int) (hl : ∀ i, l.getD i 0 < 4294967296) (hK : ∀ hp, K (.v (.bool true)) hp M) :
    runF GJ pf4 [.slc 0 1 0 l.length, .v (.int .i64 x), .v (.int .i64 y)] [.row false e [.int .u32] (l.map wrow)] M K := by
  repeat ((conv => whnf); (first | refine Cnd.yes ?_ | refine Cnd.no ?_ | refine And.intro rfl ?_ | refine And.intro (by omega) ?_ | (refine And.intro ?_ ?_; focus (simp only [IntKind.wrap_i64, IntKind.wrap_u64, IntKind.wrap_u32]; omega)) | (refine And.intro ?_ ?_; focus (simp only [zl1, zl2, zl3, zl4, zl5, zl6, zl7, zl8, zl9] <;> omega)) | (refine Cnd.tt ?_ ?_; focus (first | (apply decide_eq_true; omega) | (simp only [zq1, zq2, zq3, zq4, zq5, zq6, zq7, zq8, zq9, zq10, zq11, zq12] <;> omega) | rfl)) | (refine Cnd.ff ?_ ?_; focus (first | (apply decide_eq_false; omega) | (simp only [zq1, zq2, zq3, zq4, zq5, zq6, zq7, zq8, zq9, zq10, zq11, zq12] <;> omega) | rfl))))
  conv => whnf
  by_cases hbig : 30 < l.length
  · repeat ((conv => whnf); (first | refine Cnd.yes ?_ | refine Cnd.no ?_ | refine And.intro rfl ?_ | refine And.intro (by omega) ?_ | (refine And.intro ?_ ?_; focus (simp only [IntKind.wrap_i64, IntKind.wrap_u64, IntKind.wrap_u32]; omega)) | (refine And.intro ?_ ?_; focus (simp only [zl1, zl2, zl3, zl4, zl5, zl6, zl7, zl8, zl9] <;> omega)) | (refine Cnd.tt ?_ ?_; focus (first | (apply decide_eq_true; omega) | (simp only [zq1, zq2, zq3, zq4, zq5, zq6, zq7, zq8, zq9, zq10, zq11, zq12] <;> omega) | rfl)) | (refine Cnd.ff ?_ ?_; focus (first | (apply decide_eq_false; omega) | (simp only [zq1, zq2, zq3, zq4, zq5, zq6, zq7, zq8, zq9, zq10, zq11, zq12] <;> omega) | rfl))))
    conv => whnf
    exact hK _
  · obtain ⟨E, hE⟩ : ∃ E : Nat → Nat, E = fun j => l.getD j 0 := ⟨_, rfl⟩
    obtain ⟨line, hline, q1⟩ := emod_nat x 4 (by omega)
    obtain ⟨cut, hcut, q2⟩ := emod_nat y 40 (by omega)
    repeat ((conv => whnf); (first | refine Cnd.yes ?_ | refine Cnd.no ?_ | refine And.intro rfl ?_ | refine And.intro (by omega) ?_ | (refine And.intro ?_ ?_; focus (simp only [IntKind.wrap_i64, IntKind.wrap_u64, IntKind.wrap_u32]; omega)) | (refine And.intro ?_ ?_; focus (simp only [zl1, zl2, zl3, zl4, zl5, zl6, zl7, zl8, zl9] <;> omega)) | (refine Cnd.tt ?_ ?_; focus (first | (apply decide_eq_true; omega) | (simp only [zq1, zq2, zq3, zq4, zq5, zq6, zq7, zq8, zq9, zq10, zq11, zq12] <;> omega) | rfl)) | (refine Cnd.ff ?_ ?_; focus (first | (apply decide_eq_false; omega) | (simp only [zq1, zq2, zq3, zq4, zq5, zq6, zq7, zq8, zq9, zq10, zq11, zq12] <;> omega) | rfl))))
    conv => whnf
    refine ⟨40, rfl, rfl, by omega, by omega, ?_⟩
    repeat ((conv => whnf); (first | refine Cnd.yes ?_ | refine Cnd.no ?_ | refine And.intro rfl ?_ | refine And.intro (by omega) ?_ | (refine And.intro ?_ ?_; focus (simp only [IntKind.wrap_i64, IntKind.wrap_u64, IntKind.wrap_u32]; omega)) | (refine And.intro ?_ ?_; focus (simp only [zl1, zl2, zl3, zl4, zl5, zl6, zl7, zl8, zl9] <;> omega)) | (refine Cnd.tt ?_ ?_; focus (first | (apply decide_eq_true; omega) | (simp only [zq1, zq2, zq3, zq4, zq5, zq6, zq7, zq8, zq9, zq10, zq11, zq12] <;> omega) | rfl)) | (refine Cnd.ff ?_ ?_; focus (first | (apply decide_eq_false; omega) | (simp only [zq1, zq2, zq3, zq4, zq5, zq6, zq7, zq8, zq9, zq10, zq11, zq12] <;> omega) | rfl))))
    conv => whnf
    refine ⟨x, 4, rfl, by omega, by omega, ?_⟩
    rw [show x % 4 = (line : Int) from q1]
    repeat ((conv => whnf); (first | refine Cnd.yes ?_ | refine Cnd.no ?_ | refine And.intro rfl ?_ | refine And.intro (by omega) ?_ | (refine And.intro ?_ ?_; focus (simp only [IntKind.wrap_i64, IntKind.wrap_u64, IntKind.wrap_u32]; omega)) | (refine And.intro ?_ ?_; focus (simp only [zl1, zl2, zl3, zl4, zl5, zl6, zl7, zl8, zl9] <;> omega)) | (refine Cnd.tt ?_ ?_; focus (first | (apply decide_eq_true; omega) | (simp only [zq1, zq2, zq3, zq4, zq5, zq6, zq7, zq8, zq9, zq10, zq11, zq12] <;> omega) | rfl)) | (refine Cnd.ff ?_ ?_; focus (first | (apply decide_eq_false; omega) | (simp only [zq1, zq2, zq3, zq4, zq5, zq6, zq7, zq8, zq9, zq10, zq11, zq12] <;> omega) | rfl))))
    conv => whnf
    refine ⟨y, 40, rfl, by omega, by omega, ?_⟩
    rw [show y % 40 = (cut : Int) from q2]
    repeat ((conv => whnf); (first | refine Cnd.yes ?_ | refine Cnd.no ?_ | refine And.intro rfl ?_ | refine And.intro (by omega) ?_ | (refine And.intro ?_ ?_; focus (simp only [IntKind.wrap_i64, IntKind.wrap_u64, IntKind.wrap_u32]; omega)) | (refine And.intro ?_ ?_; focus (simp only [zl1, zl2, zl3, zl4, zl5, zl6, zl7, zl8, zl9] <;> omega)) | (refine Cnd.tt ?_ ?_; focus (first | (apply decide_eq_true; omega) | (simp only [zq1, zq2, zq3, zq4, zq5, zq6, zq7, zq8, zq9, zq10, zq11, zq12] <;> omega) | rfl)) | (refine Cnd.ff ?_ ?_; focus (first | (apply decide_eq_false; omega) | (simp only [zq1, zq2, zq3, zq4, zq5, zq6, zq7, zq8, zq9, zq10, zq11, zq12] <;> omega) | rfl))))
    conv => whnf
    refine ⟨InvS 102 (fun s : Nat × List Int => l.length - s.1) (fun s : Nat × List Int => s.1 ≤ l.length ∧ s.2 = wantQ E line cut s.1 ∧ s.2.length ≤ s.1) (fun s : Nat × List Int => [(0, .slc 0 1 0 l.length), (1, .v (.int .i64 line)), (2, .v (.int .i64 cut)), (8, .ptr 1 0 0 0), (10, .slc 3 1 0 s.2.length), (11, .v (.int .i64 s.1))]) (fun s : Nat × List Int => hHp e l E s.1 s.2) M, ⟨(fun s : Nat × List Int => l.length - s.1) (0, []), [0, 1, 2, 99], tmk 102 0 ((fun s : Nat × List Int => [(0, .slc 0 1 0 l.length), (1, .v (.int .i64 line)), (2, .v (.int .i64 cut)), (8, .ptr 1 0 0 0), (10, .slc 3 1 0 s.2.length), (11, .v (.int .i64 s.1))]) (0, [])), (fun s : Nat × List Int => hHp e l E s.1 s.2) (0, []), ?_⟩, ?_⟩
    · repeat ((conv => whnf); (first | refine Cnd.yes ?_ | refine Cnd.no ?_ | refine And.intro rfl ?_ | refine And.intro (by omega) ?_ | (refine And.intro ?_ ?_; focus (simp only [IntKind.wrap_i64, IntKind.wrap_u64, IntKind.wrap_u32]; omega)) | (refine And.intro ?_ ?_; focus (simp only [zl1, zl2, zl3, zl4, zl5, zl6, zl7, zl8, zl9] <;> omega))))
      conv => whnf
      exact ⟨(0, []), ⟨Nat.zero_le _, rfl, Nat.le_refl _⟩, rfl, rfl, (tmkK_eq _ _ _ _).mpr rfl, rfl⟩
    · rintro cnt tm hp M1 ⟨⟨i,W⟩, hC_, rfl, rfl, htm, hhp_⟩
      replace hC_ : i ≤ l.length ∧ W = wantQ E line cut i ∧ W.length ≤ i := hC_
      obtain ⟨hi, hW, hWl⟩ := hC_
      replace htm : tmkK 102 0 [(0, .slc 0 1 0 l.length), (1, .v (.int .i64 line)), (2, .v (.int .i64 cut)), (8, .ptr 1 0 0 0), (10, .slc 3 1 0 W.length), (11, .v (.int .i64 i))] (fun l => tm = l) := htm
      conv at htm => whnf
      subst htm
      replace hhp_ : hp = hHp e l E i W := hhp_
      subst hhp_
      repeat ((conv => whnf); (first | refine Cnd.yes ?_ | refine Cnd.no ?_ | refine And.intro rfl ?_ | refine And.intro (by omega) ?_ | (refine And.intro ?_ ?_; focus (simp only [IntKind.wrap_i64, IntKind.wrap_u64, IntKind.wrap_u32]; omega)) | (refine And.intro ?_ ?_; focus (simp only [zl1, zl2, zl3, zl4, zl5, zl6, zl7, zl8, zl9] <;> omega)) | (refine Cnd.tt ?_ ?_; focus (first | (apply decide_eq_true; omega) | (simp only [zq1, zq2, zq3, zq4, zq5, zq6, zq7, zq8, zq9, zq10, zq11, zq12] <;> omega) | rfl)) | (refine Cnd.ff ?_ ?_; focus (first | (apply decide_eq_false; omega) | (simp only [zq1, zq2, zq3, zq4, zq5, zq6, zq7, zq8, zq9, zq10, zq11, zq12] <;> omega) | rfl))))
      conv => whnf
      refine Cnd.mk (fun hlt => ?_) fun hge => ?_
      · have hin : i < l.length := by have := of_decide_eq_true hlt; omega
        have hEi : E i < 4294967296 := by rw [hE]; exact hl i
        have c0 : toI (cellAt (l.map wrow) (0 + (i : Int).toNat) 0) = ((E i : Nat) : Int) := by rw [toI_w hin, hE]
        have e64 : ((E i : Nat) : Int).tmod 64 = ((E i % 64 : Nat) : Int) := by rw [Int.tmod_eq_emod_of_nonneg (by omega)]; omega
        have ead : IntKind.u32.wrap ((BitVec.ofInt IntKind.u32.bits ((E i % 64 : Nat) : Int) &&& ~~~BitVec.ofInt IntKind.u32.bits 3).toNat : Int) = ((adH (E i) : Nat) : Int) := eand64 (E i)
        have hadl : adH (E i) < 64 ∧ adH (E i) % 4 = 0 := by unfold adH; omega
        repeat ((conv => whnf); (first | refine Cnd.yes ?_ | refine Cnd.no ?_ | refine And.intro rfl ?_ | refine And.intro (by omega) ?_ | (refine And.intro ?_ ?_; focus (simp only [IntKind.wrap_i64, IntKind.wrap_u64, IntKind.wrap_u32]; omega)) | (refine And.intro ?_ ?_; focus (simp only [zl1, zl2, zl3, zl4, zl5, zl6, zl7, zl8, zl9] <;> omega)) | (refine Cnd.tt ?_ ?_; focus (first | (apply decide_eq_true; omega) | (simp only [zq1, zq2, zq3, zq4, zq5, zq6, zq7, zq8, zq9, zq10, zq11, zq12] <;> omega) | rfl)) | (refine Cnd.ff ?_ ?_; focus (first | (apply decide_eq_false; omega) | (simp only [zq1, zq2, zq3, zq4, zq5, zq6, zq7, zq8, zq9, zq10, zq11, zq12] <;> omega) | rfl))))
        conv => whnf
        rw [c0, e64, ead]
        refine ⟨40, i, false, HQ E i, [], rfl, by rw [qHp, HQ_len]; rfl, by rw [HQ_len]; omega, by omega, HQ_last E i, ?_⟩
        rw [HQ_len, List.map_append]
        repeat ((conv => whnf); (first | refine Cnd.yes ?_ | refine Cnd.no ?_ | refine And.intro rfl ?_ | refine And.intro (by omega) ?_ | (refine And.intro ?_ ?_; focus (simp only [IntKind.wrap_i64, IntKind.wrap_u64, IntKind.wrap_u32]; omega)) | (refine And.intro ?_ ?_; focus (simp only [zl1, zl2, zl3, zl4, zl5, zl6, zl7, zl8, zl9] <;> omega)) | (refine Cnd.tt ?_ ?_; focus (first | (apply decide_eq_true; omega) | (simp only [zq1, zq2, zq3, zq4, zq5, zq6, zq7, zq8, zq9, zq10, zq11, zq12] <;> omega) | rfl)) | (refine Cnd.ff ?_ ?_; focus (first | (apply decide_eq_false; omega) | (simp only [zq1, zq2, zq3, zq4, zq5, zq6, zq7, zq8, zq9, zq10, zq11, zq12] <;> omega) | rfl))))
        conv => whnf
        refine ⟨40, i, adH (E i), 4, HQ E i, ⟨i, false, false, false, 0, 0, 0⟩, [], i + 1, rfl, rfl, by rw [HQ_len]; omega, by rw [HQ_len]; simp, by omega, rfl, HQ_ne, rfl, by omega, by omega, by omega, by omega, ?_⟩
        repeat ((conv => whnf); (first | refine Cnd.yes ?_ | refine Cnd.no ?_ | refine And.intro rfl ?_ | refine And.intro (by omega) ?_ | (refine And.intro ?_ ?_; focus (simp only [IntKind.wrap_i64, IntKind.wrap_u64, IntKind.wrap_u32]; omega)) | (refine And.intro ?_ ?_; focus (simp only [zl1, zl2, zl3, zl4, zl5, zl6, zl7, zl8, zl9] <;> omega)) | (refine Cnd.tt ?_ ?_; focus (first | (apply decide_eq_true; omega) | (simp only [zq1, zq2, zq3, zq4, zq5, zq6, zq7, zq8, zq9, zq10, zq11, zq12] <;> omega) | rfl)) | (refine Cnd.ff ?_ ?_; focus (first | (apply decide_eq_false; omega) | (simp only [zq1, zq2, zq3, zq4, zq5, zq6, zq7, zq8, zq9, zq10, zq11, zq12] <;> omega) | rfl))))
        conv => whnf
        have hwn : wantQ E line cut (i + 1) = wantQ E line cut i ++ if E i / 256 % 2 = 0 ∧ adH (E i) / 16 = line ∧ i ≤ cut then [(i : Int)] else [] := rfl
        rw [← hW] at hwn
        rw [c0, ebit _ hEi]
        by_cases hb : E i / 256 % 2 = 0
        · have hq : (HQ E i).map qrow ++ [qrow (Q7.mk i false true true (adH (E i)) 4 0)] = (HQ E (i + 1)).map qrow ++ [] := by
            rw [List.append_nil, HQ_succ, List.map_append]
            simp [qH, hb]
          repeat ((conv => whnf); (first | refine Cnd.yes ?_ | refine Cnd.no ?_ | refine And.intro rfl ?_ | refine And.intro (by omega) ?_ | (refine And.intro ?_ ?_; focus (simp only [IntKind.wrap_i64, IntKind.wrap_u64, IntKind.wrap_u32]; omega)) | (refine And.intro ?_ ?_; focus (simp only [zl1, zl2, zl3, zl4, zl5, zl6, zl7, zl8, zl9] <;> omega)) | (refine Cnd.tt ?_ ?_; focus (first | (apply decide_eq_true; omega) | (simp only [zq1, zq2, zq3, zq4, zq5, zq6, zq7, zq8, zq9, zq10, zq11, zq12] <;> omega) | rfl)) | (refine Cnd.ff ?_ ?_; focus (first | (apply decide_eq_false; omega) | (simp only [zq1, zq2, zq3, zq4, zq5, zq6, zq7, zq8, zq9, zq10, zq11, zq12] <;> omega) | rfl))))
          conv => whnf
          refine ⟨40, i, i, HQ E i, ⟨i, false, true, false, adH (E i), 4, 0⟩, [], i + 1, rfl, rfl, by rw [HQ_len]; omega, by rw [HQ_len]; simp, by omega, rfl, HQ_ne, rfl, rfl, ?_⟩
          repeat ((conv => whnf); (first | refine Cnd.yes ?_ | refine Cnd.no ?_ | refine And.intro rfl ?_ | refine And.intro (by omega) ?_ | (refine And.intro ?_ ?_; focus (simp only [IntKind.wrap_i64, IntKind.wrap_u64, IntKind.wrap_u32]; omega)) | (refine And.intro ?_ ?_; focus (simp only [zl1, zl2, zl3, zl4, zl5, zl6, zl7, zl8, zl9] <;> omega)) | (refine Cnd.tt ?_ ?_; focus (first | (apply decide_eq_true; omega) | (simp only [zq1, zq2, zq3, zq4, zq5, zq6, zq7, zq8, zq9, zq10, zq11, zq12] <;> omega) | rfl)) | (refine Cnd.ff ?_ ?_; focus (first | (apply decide_eq_false; omega) | (simp only [zq1, zq2, zq3, zq4, zq5, zq6, zq7, zq8, zq9, zq10, zq11, zq12] <;> omega) | rfl))))
          conv => whnf
          rw [wl1 hline]
          by_cases h2 : adH (E i) / 16 = line
          · by_cases h3 : i ≤ cut
            · rw [if_pos ⟨hb, h2, h3⟩] at hwn
              repeat ((conv => whnf); (first | refine Cnd.yes ?_ | refine Cnd.no ?_ | refine And.intro rfl ?_ | refine And.intro (by omega) ?_ | (refine And.intro ?_ ?_; focus (simp only [IntKind.wrap_i64, IntKind.wrap_u64, IntKind.wrap_u32]; omega)) | (refine And.intro ?_ ?_; focus (simp only [zl1, zl2, zl3, zl4, zl5, zl6, zl7, zl8, zl9] <;> omega)) | (refine Cnd.tt ?_ ?_; focus (first | (apply decide_eq_true; omega) | (simp only [zq1, zq2, zq3, zq4, zq5, zq6, zq7, zq8, zq9, zq10, zq11, zq12] <;> omega) | rfl)) | (refine Cnd.ff ?_ ?_; focus (first | (apply decide_eq_false; omega) | (simp only [zq1, zq2, zq3, zq4, zq5, zq6, zq7, zq8, zq9, zq10, zq11, zq12] <;> omega) | rfl))))
              conv => whnf
              (refine ⟨(fun s : Nat × List Int => l.length - s.1) ((i + 1, W ++ [(i : Int)])), [0, 1, 4, 6], tmk 102 0 ((fun s : Nat × List Int => [(0, .slc 0 1 0 l.length), (1, .v (.int .i64 line)), (2, .v (.int .i64 cut)), (8, .ptr 1 0 0 0), (10, .slc 3 1 0 s.2.length), (11, .v (.int .i64 s.1))]) ((i + 1, W ++ [(i : Int)]))), (fun s : Nat × List Int => hHp e l E s.1 s.2) ((i + 1, W ++ [(i : Int)])), ?_, ?_⟩; focus (first | (simp only []; omega) | omega))
              repeat ((conv => whnf); (first | refine Cnd.yes ?_ | refine Cnd.no ?_ | refine And.intro rfl ?_ | refine And.intro (by omega) ?_ | (refine And.intro ?_ ?_; focus (simp only [IntKind.wrap_i64, IntKind.wrap_u64, IntKind.wrap_u32]; omega)) | (refine And.intro ?_ ?_; focus (simp only [zl1, zl2, zl3, zl4, zl5, zl6, zl7, zl8, zl9] <;> omega))))
              conv => whnf
              refine ⟨by rw [List.drop_zero, List.take_of_length_le (by simp), List.map_append]; rfl, ?_⟩
              repeat ((conv => whnf); (first | refine Cnd.yes ?_ | refine Cnd.no ?_ | refine And.intro rfl ?_ | refine And.intro (by omega) ?_ | (refine And.intro ?_ ?_; focus (simp only [IntKind.wrap_i64, IntKind.wrap_u64, IntKind.wrap_u32]; omega)) | (refine And.intro ?_ ?_; focus (simp only [zl1, zl2, zl3, zl4, zl5, zl6, zl7, zl8, zl9] <;> omega))))
              conv => whnf
              exact ⟨(i + 1, W ++ [(i : Int)]), ⟨hin, hwn.symm, by rw [List.length_append]; show W.length + 1 ≤ i + 1; omega⟩, rfl, rfl, (tmkK_eq _ _ _ _).mpr rfl, rfl⟩
            · rw [if_neg (fun h => h3 h.2.2), List.append_nil] at hwn
              repeat ((conv => whnf); (first | refine Cnd.yes ?_ | refine Cnd.no ?_ | refine And.intro rfl ?_ | refine And.intro (by omega) ?_ | (refine And.intro ?_ ?_; focus (simp only [IntKind.wrap_i64, IntKind.wrap_u64, IntKind.wrap_u32]; omega)) | (refine And.intro ?_ ?_; focus (simp only [zl1, zl2, zl3, zl4, zl5, zl6, zl7, zl8, zl9] <;> omega)) | (refine Cnd.tt ?_ ?_; focus (first | (apply decide_eq_true; omega) | (simp only [zq1, zq2, zq3, zq4, zq5, zq6, zq7, zq8, zq9, zq10, zq11, zq12] <;> omega) | rfl)) | (refine Cnd.ff ?_ ?_; focus (first | (apply decide_eq_false; omega) | (simp only [zq1, zq2, zq3, zq4, zq5, zq6, zq7, zq8, zq9, zq10, zq11, zq12] <;> omega) | rfl))))
              conv => whnf
              (refine ⟨(fun s : Nat × List Int => l.length - s.1) ((i + 1, W)), [0, 1, 4, 3], tmk 102 0 ((fun s : Nat × List Int => [(0, .slc 0 1 0 l.length), (1, .v (.int .i64 line)), (2, .v (.int .i64 cut)), (8, .ptr 1 0 0 0), (10, .slc 3 1 0 s.2.length), (11, .v (.int .i64 s.1))]) ((i + 1, W))), (fun s : Nat × List Int => hHp e l E s.1 s.2) ((i + 1, W)), ?_, ?_⟩; focus (first | (simp only []; omega) | omega))
              repeat ((conv => whnf); (first | refine Cnd.yes ?_ | refine Cnd.no ?_ | refine And.intro rfl ?_ | refine And.intro (by omega) ?_ | (refine And.intro ?_ ?_; focus (simp only [IntKind.wrap_i64, IntKind.wrap_u64, IntKind.wrap_u32]; omega)) | (refine And.intro ?_ ?_; focus (simp only [zl1, zl2, zl3, zl4, zl5, zl6, zl7, zl8, zl9] <;> omega))))
              conv => whnf
              exact ⟨(i + 1, W), ⟨hin, hwn.symm, Nat.le_succ_of_le hWl⟩, rfl, rfl, (tmkK_eq _ _ _ _).mpr rfl, rfl⟩
          · rw [if_neg (fun h => h2 h.2.1), List.append_nil] at hwn
            repeat ((conv => whnf); (first | refine Cnd.yes ?_ | refine Cnd.no ?_ | refine And.intro rfl ?_ | refine And.intro (by omega) ?_ | (refine And.intro ?_ ?_; focus (simp only [IntKind.wrap_i64, IntKind.wrap_u64, IntKind.wrap_u32]; omega)) | (refine And.intro ?_ ?_; focus (simp only [zl1, zl2, zl3, zl4, zl5, zl6, zl7, zl8, zl9] <;> omega)) | (refine Cnd.tt ?_ ?_; focus (first | (apply decide_eq_true; omega) | (simp only [zq1, zq2, zq3, zq4, zq5, zq6, zq7, zq8, zq9, zq10, zq11, zq12] <;> omega) | rfl)) | (refine Cnd.ff ?_ ?_; focus (first | (apply decide_eq_false; omega) | (simp only [zq1, zq2, zq3, zq4, zq5, zq6, zq7, zq8, zq9, zq10, zq11, zq12] <;> omega) | rfl))))
            conv => whnf
            (refine ⟨(fun s : Nat × List Int => l.length - s.1) ((i + 1, W)), [0, 1, 4, 3], tmk 102 0 ((fun s : Nat × List Int => [(0, .slc 0 1 0 l.length), (1, .v (.int .i64 line)), (2, .v (.int .i64 cut)), (8, .ptr 1 0 0 0), (10, .slc 3 1 0 s.2.length), (11, .v (.int .i64 s.1))]) ((i + 1, W))), (fun s : Nat × List Int => hHp e l E s.1 s.2) ((i + 1, W)), ?_, ?_⟩; focus (first | (simp only []; omega) | omega))
            repeat ((conv => whnf); (first | refine Cnd.yes ?_ | refine Cnd.no ?_ | refine And.intro rfl ?_ | refine And.intro (by omega) ?_ | (refine And.intro ?_ ?_; focus (simp only [IntKind.wrap_i64, IntKind.wrap_u64, IntKind.wrap_u32]; omega)) | (refine And.intro ?_ ?_; focus (simp only [zl1, zl2, zl3, zl4, zl5, zl6, zl7, zl8, zl9] <;> omega))))
            conv => whnf
            exact ⟨(i + 1, W), ⟨hin, hwn.symm, Nat.le_succ_of_le hWl⟩, rfl, rfl, (tmkK_eq _ _ _ _).mpr rfl, rfl⟩
        · have hq : (HQ E i).map qrow ++ [qrow (Q7.mk i false true false (adH (E i)) 4 0)] = (HQ E (i + 1)).map qrow ++ [] := by
            rw [List.append_nil, HQ_succ, List.map_append]
            simp [qH, hb]
          rw [if_neg (fun h => hb h.1), List.append_nil] at hwn
          repeat ((conv => whnf); (first | refine Cnd.yes ?_ | refine Cnd.no ?_ | refine And.intro rfl ?_ | refine And.intro (by omega) ?_ | (refine And.intro ?_ ?_; focus (simp only [IntKind.wrap_i64, IntKind.wrap_u64, IntKind.wrap_u32]; omega)) | (refine And.intro ?_ ?_; focus (simp only [zl1, zl2, zl3, zl4, zl5, zl6, zl7, zl8, zl9] <;> omega)) | (refine Cnd.tt ?_ ?_; focus (first | (apply decide_eq_true; omega) | (simp only [zq1, zq2, zq3, zq4, zq5, zq6, zq7, zq8, zq9, zq10, zq11, zq12] <;> omega) | rfl)) | (refine Cnd.ff ?_ ?_; focus (first | (apply decide_eq_false; omega) | (simp only [zq1, zq2, zq3, zq4, zq5, zq6, zq7, zq8, zq9, zq10, zq11, zq12] <;> omega) | rfl))))
          conv => whnf
          (refine ⟨(fun s : Nat × List Int => l.length - s.1) ((i + 1, W)), [0, 1, 4, 3], tmk 102 0 ((fun s : Nat × List Int => [(0, .slc 0 1 0 l.length), (1, .v (.int .i64 line)), (2, .v (.int .i64 cut)), (8, .ptr 1 0 0 0), (10, .slc 3 1 0 s.2.length), (11, .v (.int .i64 s.1))]) ((i + 1, W))), (fun s : Nat × List Int => hHp e l E s.1 s.2) ((i + 1, W)), ?_, ?_⟩; focus (first | (simp only []; omega) | omega))
          repeat ((conv => whnf); (first | refine Cnd.yes ?_ | refine Cnd.no ?_ | refine And.intro rfl ?_ | refine And.intro (by omega) ?_ | (refine And.intro ?_ ?_; focus (simp only [IntKind.wrap_i64, IntKind.wrap_u64, IntKind.wrap_u32]; omega)) | (refine And.intro ?_ ?_; focus (simp only [zl1, zl2, zl3, zl4, zl5, zl6, zl7, zl8, zl9] <;> omega))))
          conv => whnf
          exact ⟨(i + 1, W), ⟨hin, hwn.symm, Nat.le_succ_of_le hWl⟩, rfl, rfl, (tmkK_eq _ _ _ _).mpr rfl, rfl⟩
      · obtain rfl : i = l.length := by have := of_decide_eq_false hge; omega
        repeat ((conv => whnf); (first | refine Cnd.yes ?_ | refine Cnd.no ?_ | refine And.intro rfl ?_ | refine And.intro (by omega) ?_ | (refine And.intro ?_ ?_; focus (simp only [IntKind.wrap_i64, IntKind.wrap_u64, IntKind.wrap_u32]; omega)) | (refine And.intro ?_ ?_; focus (simp only [zl1, zl2, zl3, zl4, zl5, zl6, zl7, zl8, zl9] <;> omega)) | (refine Cnd.tt ?_ ?_; focus (first | (apply decide_eq_true; omega) | (simp only [zq1, zq2, zq3, zq4, zq5, zq6, zq7, zq8, zq9, zq10, zq11, zq12] <;> omega) | rfl)) | (refine Cnd.ff ?_ ?_; focus (first | (apply decide_eq_false; omega) | (simp only [zq1, zq2, zq3, zq4, zq5, zq6, zq7, zq8, zq9, zq10, zq11, zq12] <;> omega) | rfl))))
        conv => whnf
        obtain ⟨m, hm⟩ : ∃ m, m = min l.length (cut + 1) := ⟨_, rfl⟩
        rw [want_eq, ← hm] at hW
        have hsp := HQ_split E (show m ≤ l.length by omega)
        have hS : ((List.range (l.length - m)).map (fun j => qH E (m + j))).length = l.length - m := by simp
        have hS2 : ∀ y ∈ (List.range (l.length - m)).map (fun j => qH E (m + j)), (cut : Int) < y.id := fun y hy => by
          obtain ⟨j, hj, rfl⟩ := List.mem_map.1 hy
          have := List.mem_range.1 hj
          show (cut : Int) < ((m + j : Nat) : Int)
          omega
        generalize (List.range (l.length - m)).map (fun j => qH E (m + j)) = S at hsp hS hS2
        have hP2 : ∀ y ∈ HQ E m, y.id ≤ (cut : Int) := fun y hy => by
          obtain ⟨j, hj, rfl⟩ := HQ_mem hy
          show (j : Int) ≤ cut
          omega
        have hlen : (HQ E m).length + S.length = l.length := by rw [HQ_len]; omega
        have hadP : ∀ y ∈ HQ E m, 0 ≤ y.ad ∧ y.ad < 4294967296 := fun y hy => by
          obtain ⟨j, hj, rfl⟩ := HQ_mem hy
          show 0 ≤ ((adH (E j) : Nat) : Int) ∧ ((adH (E j) : Nat) : Int) < 4294967296
          unfold adH
          omega
        have hlh := hitL_len line (HQ E m)
        rw [HQ_len] at hlh
        refine ⟨40, HQ E m, S, [], cut, rfl, by rw [hlen, ← hsp], by omega, hP2, hS2, fun rest => ?_⟩
        repeat ((conv => whnf); (first | refine Cnd.yes ?_ | refine Cnd.no ?_ | refine And.intro rfl ?_ | refine And.intro (by omega) ?_ | (refine And.intro ?_ ?_; focus (simp only [IntKind.wrap_i64, IntKind.wrap_u64, IntKind.wrap_u32]; omega)) | (refine And.intro ?_ ?_; focus (simp only [zl1, zl2, zl3, zl4, zl5, zl6, zl7, zl8, zl9] <;> omega)) | (refine Cnd.tt ?_ ?_; focus (first | (apply decide_eq_true; omega) | (simp only [zq1, zq2, zq3, zq4, zq5, zq6, zq7, zq8, zq9, zq10, zq11, zq12] <;> omega) | rfl)) | (refine Cnd.ff ?_ ?_; focus (first | (apply decide_eq_false; omega) | (simp only [zq1, zq2, zq3, zq4, zq5, zq6, zq7, zq8, zq9, zq10, zq11, zq12] <;> omega) | rfl))))
        conv => whnf
        refine Cnd.tt (by rw [beq_iff_eq]; exact w_max hm (by omega) (by omega) hS) ?_
        repeat ((conv => whnf); (first | refine Cnd.yes ?_ | refine Cnd.no ?_ | refine And.intro rfl ?_ | refine And.intro (by omega) ?_ | (refine And.intro ?_ ?_; focus (simp only [IntKind.wrap_i64, IntKind.wrap_u64, IntKind.wrap_u32]; omega)) | (refine And.intro ?_ ?_; focus (simp only [zl1, zl2, zl3, zl4, zl5, zl6, zl7, zl8, zl9] <;> omega)) | (refine Cnd.tt ?_ ?_; focus (first | (apply decide_eq_true; omega) | (simp only [zq1, zq2, zq3, zq4, zq5, zq6, zq7, zq8, zq9, zq10, zq11, zq12] <;> omega) | rfl)) | (refine Cnd.ff ?_ ?_; focus (first | (apply decide_eq_false; omega) | (simp only [zq1, zq2, zq3, zq4, zq5, zq6, zq7, zq8, zq9, zq10, zq11, zq12] <;> omega) | rfl))))
        conv => whnf
        refine ⟨40, line, HQ E m, rest, rfl, rfl, by rw [HQ_len]; omega, hadP, ?_⟩
        rw [← hW]
        repeat ((conv => whnf); (first | refine Cnd.yes ?_ | refine Cnd.no ?_ | refine And.intro rfl ?_ | refine And.intro (by omega) ?_ | (refine And.intro ?_ ?_; focus (simp only [IntKind.wrap_i64, IntKind.wrap_u64, IntKind.wrap_u32]; omega)) | (refine And.intro ?_ ?_; focus (simp only [zl1, zl2, zl3, zl4, zl5, zl6, zl7, zl8, zl9] <;> omega)) | (refine Cnd.tt ?_ ?_; focus (first | (apply decide_eq_true; omega) | (simp only [zq1, zq2, zq3, zq4, zq5, zq6, zq7, zq8, zq9, zq10, zq11, zq12] <;> omega) | rfl)) | (refine Cnd.ff ?_ ?_; focus (first | (apply decide_eq_false; omega) | (simp only [zq1, zq2, zq3, zq4, zq5, zq6, zq7, zq8, zq9, zq10, zq11, zq12] <;> omega) | rfl))))
        conv => whnf
        refine ⟨3, W, rfl, rfl, by omega, ?_⟩
        repeat ((conv => whnf); (first | refine Cnd.yes ?_ | refine Cnd.no ?_ | refine And.intro rfl ?_ | refine And.intro (by omega) ?_ | (refine And.intro ?_ ?_; focus (simp only [IntKind.wrap_i64, IntKind.wrap_u64, IntKind.wrap_u32]; omega)) | (refine And.intro ?_ ?_; focus (simp only [zl1, zl2, zl3, zl4, zl5, zl6, zl7, zl8, zl9] <;> omega)) | (refine Cnd.tt ?_ ?_; focus (first | (apply decide_eq_true; omega) | (simp only [zq1, zq2, zq3, zq4, zq5, zq6, zq7, zq8, zq9, zq10, zq11, zq12] <;> omega) | rfl)) | (refine Cnd.ff ?_ ?_; focus (first | (apply decide_eq_false; omega) | (simp only [zq1, zq2, zq3, zq4, zq5, zq6, zq7, zq8, zq9, zq10, zq11, zq12] <;> omega) | rfl))))
        conv => whnf
        exact hK _
end Go.Proofs.YtjbknaniihkcnaaDoor
