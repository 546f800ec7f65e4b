/-
  The queue: DeleteFunc behind a number, keep, Cut, Hit; SameInts; walked; their contracts.
-/
import Derived.Test.YtjbknaniihkcnaaDoorCe
namespace Go.Proofs.YtjbknaniihkcnaaDoor
open Go Go.Vc
set_option maxRecDepth 100000
set_option linter.unusedSimpArgs false
set_option linter.unusedVariables false
set_option maxHeartbeats 4000000
def cHp (P S : List Q7) (post : List (List Value)) (cut : Int) : List Ent := [.row true 61 qck ((P ++ S).map qrow ++ post), .cells 71 [.fn (.func 26) [] [.ptr 2 0 0 0]], .cells 3 [.v (.int .i64 cut)]]
theorem cellPS {P S : List Q7} {post : List (List Value)} {i : Nat} (hi : i < P.length + S.length) (k : Nat) : cellAt ((P ++ S).map qrow ++ post) (0 + (i : Int).toNat) k = (qrow ((P ++ S).getD i default)).getD k undef := by
  rw [Nat.zero_add, Int.toNat_natCast]
  exact cellL (P ++ S) post (by rw [List.length_append]; exact hi) k
theorem idPS {P S : List Q7} {cut : Int} (hP : ∀ y ∈ P, y.id ≤ cut) (hS : ∀ y ∈ S, cut < y.id) {i : Nat} (hi : i < P.length + S.length) : ((P ++ S).getD i default).id ≤ cut ↔ i < P.length := by
  by_cases h : i < P.length
  · have h1 : (P ++ S).getD i default = P.getD i default := by simp [List.getD, List.getElem?_append_left h]
    rw [h1]
    exact ⟨fun _ => h, fun _ => hP _ (by simp [List.getD, h])⟩
  · have h1 : (P ++ S).getD i default = S.getD (i - P.length) default := by simp [List.getD, List.getElem?_append_right (Nat.le_of_not_lt h)]
    rw [h1]
    have := hS (S.getD (i - P.length) default) (by simp [List.getD, show i - P.length < S.length by omega])
    omega
theorem didx_run (M : HL) (K : SV → List Ent → HL → Prop) (P S : List Q7) (post : List (List Value)) (cut : Int) (hl : P.length + S.length ≤ 1000) (hP : ∀ y ∈ P, y.id ≤ cut) (hS : ∀ y ∈ S, cut < y.id)
    (hK : K (.v (.int .i64 (if S = [] then -1 else (P.length : Int)))) (cHp P S post cut) M) :
    runF G0 pf28 [.slc 0 7 0 (P.length + S.length), .fn (.func 34) [] [.ptr 1 0 0 0]] (cHp P S post cut) M fun v hp2 M2 => ∃ m v' hp', Wk (llen (cHp P S post cut)) m [v] hp2 [v'] hp' (K v' hp' M2) := by
  repeat ((conv => whnf); (first | refine Cnd.yes ?_ | refine Cnd.no ?_ | refine And.intro rfl ?_ | refine And.intro (by omega) ?_ | (refine And.intro ?_ ?_; focus (simp only [IntKind.wrap_i64, IntKind.wrap_u64, IntKind.wrap_u32]; omega)) | (refine And.intro ?_ ?_; focus (simp only [zl1, zl2, zl3, zl4, zl5, zl6, zl7, zl8, zl9] <;> omega)) | (refine Cnd.tt ?_ ?_; focus (first | (apply decide_eq_true; omega) | (simp only [zq1, zq2, zq3, zq4, zq5, zq6, zq7, zq8, zq9, zq10, zq11, zq12] <;> omega) | rfl)) | (refine Cnd.ff ?_ ?_; focus (first | (apply decide_eq_false; omega) | (simp only [zq1, zq2, zq3, zq4, zq5, zq6, zq7, zq8, zq9, zq10, zq11, zq12] <;> omega) | rfl))))
  conv => whnf
  refine ⟨InvS 19 (fun s : Nat => P.length + S.length - s) (fun s : Nat => s ≤ P.length) (fun s : Nat => [(0, .slc 0 7 0 (P.length + S.length)), (1, .fn (.func 34) [] [.ptr 1 0 0 0]), (7, .v (.int .i64 (P.length + S.length : Nat))), (8, .v (.int .i64 s))]) (fun s : Nat => cHp P S post cut) M, ⟨(fun s : Nat => P.length + S.length - s) 0, [0, 1, 2], tmk 19 0 ((fun s : Nat => [(0, .slc 0 7 0 (P.length + S.length)), (1, .fn (.func 34) [] [.ptr 1 0 0 0]), (7, .v (.int .i64 (P.length + S.length : Nat))), (8, .v (.int .i64 s))]) 0), (fun s : Nat => cHp P S post cut) 0, ?_⟩, ?_⟩
  · repeat ((conv => whnf); (first | refine Cnd.yes ?_ | refine Cnd.no ?_ | refine And.intro rfl ?_ | refine And.intro (by omega) ?_ | (refine And.intro ?_ ?_; focus (simp only [IntKind.wrap_i64, IntKind.wrap_u64, IntKind.wrap_u32]; omega)) | (refine And.intro ?_ ?_; focus (simp only [zl1, zl2, zl3, zl4, zl5, zl6, zl7, zl8, zl9] <;> omega))))
    conv => whnf
    exact ⟨0, Nat.zero_le _, rfl, rfl, (tmkK_eq _ _ _ _).mpr rfl, rfl⟩
  · rintro cnt tm hp M1 ⟨i, hC_, rfl, rfl, htm, hhp_⟩
    replace hC_ : i ≤ P.length := hC_
    have hi := hC_
    replace htm : tmkK 19 0 [(0, .slc 0 7 0 (P.length + S.length)), (1, .fn (.func 34) [] [.ptr 1 0 0 0]), (7, .v (.int .i64 (P.length + S.length : Nat))), (8, .v (.int .i64 i))] (fun l => tm = l) := htm
    conv at htm => whnf
    subst htm
    replace hhp_ : hp = cHp P S post cut := hhp_
    subst hhp_
    by_cases hin : i < P.length + S.length
    · have c := fun k => cellPS (post := post) hin k
      have e0 : toI (cellAt ((P ++ S).map qrow ++ post) (0 + (i : Int).toNat) 0) = ((P ++ S).getD i default).id := by rw [c]; rfl
      have hle := idPS hP hS hin
      have hll : i < ((P ++ S).map qrow ++ post).length := by simp; omega
      repeat ((conv => whnf); (first | refine Cnd.yes ?_ | refine Cnd.no ?_ | refine And.intro rfl ?_ | refine And.intro (by omega) ?_ | (refine And.intro ?_ ?_; focus (simp only [IntKind.wrap_i64, IntKind.wrap_u64, IntKind.wrap_u32]; omega)) | (refine And.intro ?_ ?_; focus (simp only [zl1, zl2, zl3, zl4, zl5, zl6, zl7, zl8, zl9] <;> omega)) | (refine Cnd.tt ?_ ?_; focus (first | (apply decide_eq_true; omega) | (simp only [zq1, zq2, zq3, zq4, zq5, zq6, zq7, zq8, zq9, zq10, zq11, zq12] <;> omega) | rfl)) | (refine Cnd.ff ?_ ?_; focus (first | (apply decide_eq_false; omega) | (simp only [zq1, zq2, zq3, zq4, zq5, zq6, zq7, zq8, zq9, zq10, zq11, zq12] <;> omega) | rfl))))
      conv => whnf
      rw [e0]
      by_cases hp : i < P.length
      · have hle := hle.2 hp
        repeat ((conv => whnf); (first | refine Cnd.yes ?_ | refine Cnd.no ?_ | refine And.intro rfl ?_ | refine And.intro (by omega) ?_ | (refine And.intro ?_ ?_; focus (simp only [IntKind.wrap_i64, IntKind.wrap_u64, IntKind.wrap_u32]; omega)) | (refine And.intro ?_ ?_; focus (simp only [zl1, zl2, zl3, zl4, zl5, zl6, zl7, zl8, zl9] <;> omega)) | (refine Cnd.tt ?_ ?_; focus (first | (apply decide_eq_true; omega) | (simp only [zq1, zq2, zq3, zq4, zq5, zq6, zq7, zq8, zq9, zq10, zq11, zq12] <;> omega) | rfl)) | (refine Cnd.ff ?_ ?_; focus (first | (apply decide_eq_false; omega) | (simp only [zq1, zq2, zq3, zq4, zq5, zq6, zq7, zq8, zq9, zq10, zq11, zq12] <;> omega) | rfl))))
        conv => whnf
        (refine ⟨(fun s : Nat => P.length + S.length - s) (i + 1), [0, 1, 2], tmk 19 0 ((fun s : Nat => [(0, .slc 0 7 0 (P.length + S.length)), (1, .fn (.func 34) [] [.ptr 1 0 0 0]), (7, .v (.int .i64 (P.length + S.length : Nat))), (8, .v (.int .i64 s))]) (i + 1)), (fun s : Nat => cHp P S post cut) (i + 1), ?_, ?_⟩; focus (first | (simp only []; omega) | omega))
        repeat ((conv => whnf); (first | refine Cnd.yes ?_ | refine Cnd.no ?_ | refine And.intro rfl ?_ | refine And.intro (by omega) ?_ | (refine And.intro ?_ ?_; focus (simp only [IntKind.wrap_i64, IntKind.wrap_u64, IntKind.wrap_u32]; omega)) | (refine And.intro ?_ ?_; focus (simp only [zl1, zl2, zl3, zl4, zl5, zl6, zl7, zl8, zl9] <;> omega))))
        conv => whnf
        exact ⟨i + 1, hp, rfl, rfl, (tmkK_eq _ _ _ _).mpr rfl, rfl⟩
      · obtain rfl : i = P.length := by omega
        have hle : ¬ ((P ++ S).getD P.length default).id ≤ cut := fun h => hp (hle.1 h)
        have hne : S ≠ [] := fun h => by rw [h] at hin; simp at hin
        rw [if_neg hne] at hK
        repeat ((conv => whnf); (first | refine Cnd.yes ?_ | refine Cnd.no ?_ | refine And.intro rfl ?_ | refine And.intro (by omega) ?_ | (refine And.intro ?_ ?_; focus (simp only [IntKind.wrap_i64, IntKind.wrap_u64, IntKind.wrap_u32]; omega)) | (refine And.intro ?_ ?_; focus (simp only [zl1, zl2, zl3, zl4, zl5, zl6, zl7, zl8, zl9] <;> omega)) | (refine Cnd.tt ?_ ?_; focus (first | (apply decide_eq_true; omega) | (simp only [zq1, zq2, zq3, zq4, zq5, zq6, zq7, zq8, zq9, zq10, zq11, zq12] <;> omega) | rfl)) | (refine Cnd.ff ?_ ?_; focus (first | (apply decide_eq_false; omega) | (simp only [zq1, zq2, zq3, zq4, zq5, zq6, zq7, zq8, zq9, zq10, zq11, zq12] <;> omega) | rfl))))
        conv => whnf
        refine ⟨[0, 1, 2], .v (.int .i64 P.length), cHp P S post cut, ?_⟩
        repeat ((conv => whnf); (first | refine Cnd.yes ?_ | refine Cnd.no ?_ | refine And.intro rfl ?_ | refine And.intro (by omega) ?_ | (refine And.intro ?_ ?_; focus (simp only [IntKind.wrap_i64, IntKind.wrap_u64, IntKind.wrap_u32]; omega)) | (refine And.intro ?_ ?_; focus (simp only [zl1, zl2, zl3, zl4, zl5, zl6, zl7, zl8, zl9] <;> omega))))
        conv => whnf
        exact hK
    · have hS0 : S = [] := List.length_eq_zero_iff.1 (by omega)
      rw [if_pos hS0] at hK
      repeat ((conv => whnf); (first | refine Cnd.yes ?_ | refine Cnd.no ?_ | refine And.intro rfl ?_ | refine And.intro (by omega) ?_ | (refine And.intro ?_ ?_; focus (simp only [IntKind.wrap_i64, IntKind.wrap_u64, IntKind.wrap_u32]; omega)) | (refine And.intro ?_ ?_; focus (simp only [zl1, zl2, zl3, zl4, zl5, zl6, zl7, zl8, zl9] <;> omega)) | (refine Cnd.tt ?_ ?_; focus (first | (apply decide_eq_true; omega) | (simp only [zq1, zq2, zq3, zq4, zq5, zq6, zq7, zq8, zq9, zq10, zq11, zq12] <;> omega) | rfl)) | (refine Cnd.ff ?_ ?_; focus (first | (apply decide_eq_false; omega) | (simp only [zq1, zq2, zq3, zq4, zq5, zq6, zq7, zq8, zq9, zq10, zq11, zq12] <;> omega) | rfl))))
      conv => whnf
      refine ⟨[0, 1, 2], .v (.int .i64 (-1)), cHp P S post cut, ?_⟩
      repeat ((conv => whnf); (first | refine Cnd.yes ?_ | refine Cnd.no ?_ | refine And.intro rfl ?_ | refine And.intro (by omega) ?_ | (refine And.intro ?_ ?_; focus (simp only [IntKind.wrap_i64, IntKind.wrap_u64, IntKind.wrap_u32]; omega)) | (refine And.intro ?_ ?_; focus (simp only [zl1, zl2, zl3, zl4, zl5, zl6, zl7, zl8, zl9] <;> omega))))
      conv => whnf
      exact hK
def didxS : Vc.Spec := fun args hp _ K => ∃ (P S : List Q7) (post : List (List Value)) (cut : Int), args = [.slc 0 7 0 (P.length + S.length), .fn (.func 34) [] [.ptr 1 0 0 0]] ∧ hp = cHp P S post cut ∧ P.length + S.length ≤ 1000 ∧ (∀ y ∈ P, y.id ≤ cut) ∧ (∀ y ∈ S, cut < y.id) ∧
  K (.v (.int .i64 (if S = [] then -1 else (P.length : Int)))) (cHp P S post cut)
theorem didx_ok : SOK Tryd.prog 28 didxS := by
  refine TOK.weaken (TOK.out (runF_eq G0_ok mixed at28.1 at28.2 pf28_eq)) fun args hp M K h => ?_
  obtain ⟨P, S, post, cut, rfl, rfl, h1, h2, h3, h4⟩ := h
  exact didx_run M K P S post cut h1 h2 h3 h4
noncomputable def specsI1 : Nat → Option Vc.Trans := tget [(28, frameT didxS)]
noncomputable def GI1 : Nat → Option Vc.Trans := tabG specsI1 (tget tab) 5
theorem GI1_ok : GOK Tryd.prog GI1 := tabG_ok (GOK.cons (frame_ok didx_ok) .nil) tab_ok 5
def c2Hp (P : List Q7) (rest : List (List Value)) (cut : Int) : List Ent := [.row true 61 qck (P.map qrow ++ rest), .cells 71 [.fn (.func 26) [] [.ptr 2 0 0 0]], .cells 3 [.v (.int .i64 cut)]]
theorem del_run (M : HL) (K : SV → List Ent → HL → Prop) (P S : List Q7) (post : List (List Value)) (cut : Int) (hl : P.length + S.length ≤ 1000) (hP : ∀ y ∈ P, y.id ≤ cut) (hS : ∀ y ∈ S, cut < y.id)
    (hK : ∀ rest, K (.slc 0 7 0 P.length) (c2Hp P rest cut) M) :
    runF GI1 pf33 [.slc 0 7 0 (P.length + S.length), .fn (.func 34) [] [.ptr 1 0 0 0]] (cHp P S post cut) M fun v hp2 M2 => ∃ m v' hp', Wk (llen (cHp P S post cut)) m [v] hp2 [v'] hp' (K v' hp' M2) := by
  repeat ((conv => whnf); (first | refine Cnd.yes ?_ | refine Cnd.no ?_ | refine And.intro rfl ?_ | refine And.intro (by omega) ?_ | (refine And.intro ?_ ?_; focus (simp only [IntKind.wrap_i64, IntKind.wrap_u64, IntKind.wrap_u32]; omega)) | (refine And.intro ?_ ?_; focus (simp only [zl1, zl2, zl3, zl4, zl5, zl6, zl7, zl8, zl9] <;> omega)) | (refine Cnd.tt ?_ ?_; focus (first | (apply decide_eq_true; omega) | (simp only [zq1, zq2, zq3, zq4, zq5, zq6, zq7, zq8, zq9, zq10, zq11, zq12] <;> omega) | rfl)) | (refine Cnd.ff ?_ ?_; focus (first | (apply decide_eq_false; omega) | (simp only [zq1, zq2, zq3, zq4, zq5, zq6, zq7, zq8, zq9, zq10, zq11, zq12] <;> omega) | rfl))))
  conv => whnf
  refine ⟨P, S, post, cut, rfl, rfl, hl, hP, hS, ?_⟩
  by_cases hS0 : S = []
  · rw [if_pos hS0]
    have hl0 : S.length = 0 := by rw [hS0]; rfl
    repeat ((conv => whnf); (first | refine Cnd.yes ?_ | refine Cnd.no ?_ | refine And.intro rfl ?_ | refine And.intro (by omega) ?_ | (refine And.intro ?_ ?_; focus (simp only [IntKind.wrap_i64, IntKind.wrap_u64, IntKind.wrap_u32]; omega)) | (refine And.intro ?_ ?_; focus (simp only [zl1, zl2, zl3, zl4, zl5, zl6, zl7, zl8, zl9] <;> omega)) | (refine Cnd.tt ?_ ?_; focus (first | (apply decide_eq_true; omega) | (simp only [zq1, zq2, zq3, zq4, zq5, zq6, zq7, zq8, zq9, zq10, zq11, zq12] <;> omega) | rfl)) | (refine Cnd.ff ?_ ?_; focus (first | (apply decide_eq_false; omega) | (simp only [zq1, zq2, zq3, zq4, zq5, zq6, zq7, zq8, zq9, zq10, zq11, zq12] <;> omega) | rfl))))
    conv => whnf
    refine ⟨[0, 1, 2], .slc 0 7 0 P.length, c2Hp P post cut, ?_⟩
    repeat ((conv => whnf); (first | refine Cnd.yes ?_ | refine Cnd.no ?_ | refine And.intro rfl ?_ | refine And.intro (by omega) ?_ | (refine And.intro ?_ ?_; focus (simp only [IntKind.wrap_i64, IntKind.wrap_u64, IntKind.wrap_u32]; omega)) | (refine And.intro ?_ ?_; focus (simp only [zl1, zl2, zl3, zl4, zl5, zl6, zl7, zl8, zl9] <;> omega))))
    conv => whnf
    refine ⟨by rw [hS0, List.append_nil], ?_⟩
    repeat ((conv => whnf); (first | refine Cnd.yes ?_ | refine Cnd.no ?_ | refine And.intro rfl ?_ | refine And.intro (by omega) ?_ | (refine And.intro ?_ ?_; focus (simp only [IntKind.wrap_i64, IntKind.wrap_u64, IntKind.wrap_u32]; omega)) | (refine And.intro ?_ ?_; focus (simp only [zl1, zl2, zl3, zl4, zl5, zl6, zl7, zl8, zl9] <;> omega))))
    conv => whnf
    exact hK _
  · rw [if_neg hS0]
    have hlp : 0 < S.length := List.length_pos_iff.2 hS0
    repeat ((conv => whnf); (first | refine Cnd.yes ?_ | refine Cnd.no ?_ | refine And.intro rfl ?_ | refine And.intro (by omega) ?_ | (refine And.intro ?_ ?_; focus (simp only [IntKind.wrap_i64, IntKind.wrap_u64, IntKind.wrap_u32]; omega)) | (refine And.intro ?_ ?_; focus (simp only [zl1, zl2, zl3, zl4, zl5, zl6, zl7, zl8, zl9] <;> omega)) | (refine Cnd.tt ?_ ?_; focus (first | (apply decide_eq_true; omega) | (simp only [zq1, zq2, zq3, zq4, zq5, zq6, zq7, zq8, zq9, zq10, zq11, zq12] <;> omega) | rfl)) | (refine Cnd.ff ?_ ?_; focus (first | (apply decide_eq_false; omega) | (simp only [zq1, zq2, zq3, zq4, zq5, zq6, zq7, zq8, zq9, zq10, zq11, zq12] <;> omega) | rfl))))
    conv => whnf
    refine ⟨InvS 42 (fun s : Nat => P.length + S.length - s) (fun s : Nat => P.length < s ∧ s ≤ P.length + S.length) (fun s : Nat => [(0, .slc 0 7 0 (P.length + S.length)), (1, .fn (.func 34) [] [.ptr 1 0 0 0]), (5, .v (.int .i64 P.length)), (6, .v (.int .i64 s))]) (fun s : Nat => cHp P S post cut) M, ⟨(fun s : Nat => P.length + S.length - s) (P.length + 1), [0, 1, 2], tmk 42 0 ((fun s : Nat => [(0, .slc 0 7 0 (P.length + S.length)), (1, .fn (.func 34) [] [.ptr 1 0 0 0]), (5, .v (.int .i64 P.length)), (6, .v (.int .i64 s))]) (P.length + 1)), (fun s : Nat => cHp P S post cut) (P.length + 1), ?_⟩, ?_⟩
    · repeat ((conv => whnf); (first | refine Cnd.yes ?_ | refine Cnd.no ?_ | refine And.intro rfl ?_ | refine And.intro (by omega) ?_ | (refine And.intro ?_ ?_; focus (simp only [IntKind.wrap_i64, IntKind.wrap_u64, IntKind.wrap_u32]; omega)) | (refine And.intro ?_ ?_; focus (simp only [zl1, zl2, zl3, zl4, zl5, zl6, zl7, zl8, zl9] <;> omega))))
      conv => whnf
      exact ⟨(P.length + 1), ⟨Nat.lt_succ_self _, by omega⟩, rfl, rfl, (tmkK_eq _ _ _ _).mpr rfl, rfl⟩
    · rintro cnt tm hp M1 ⟨i, hC_, rfl, rfl, htm, hhp_⟩
      replace hC_ : P.length < i ∧ i ≤ P.length + S.length := hC_
      obtain ⟨hi1, hi2⟩ := hC_
      replace htm : tmkK 42 0 [(0, .slc 0 7 0 (P.length + S.length)), (1, .fn (.func 34) [] [.ptr 1 0 0 0]), (5, .v (.int .i64 P.length)), (6, .v (.int .i64 i))] (fun l => tm = l) := htm
      conv at htm => whnf
      subst htm
      replace hhp_ : hp = cHp P S post cut := hhp_
      subst hhp_
      repeat ((conv => whnf); (first | refine Cnd.yes ?_ | refine Cnd.no ?_ | refine And.intro rfl ?_ | refine And.intro (by omega) ?_ | (refine And.intro ?_ ?_; focus (simp only [IntKind.wrap_i64, IntKind.wrap_u64, IntKind.wrap_u32]; omega)) | (refine And.intro ?_ ?_; focus (simp only [zl1, zl2, zl3, zl4, zl5, zl6, zl7, zl8, zl9] <;> omega)) | (refine Cnd.tt ?_ ?_; focus (first | (apply decide_eq_true; omega) | (simp only [zq1, zq2, zq3, zq4, zq5, zq6, zq7, zq8, zq9, zq10, zq11, zq12] <;> omega) | rfl)) | (refine Cnd.ff ?_ ?_; focus (first | (apply decide_eq_false; omega) | (simp only [zq1, zq2, zq3, zq4, zq5, zq6, zq7, zq8, zq9, zq10, zq11, zq12] <;> omega) | rfl))))
      conv => whnf
      refine Cnd.mk (fun hlt => ?_) fun hge => ?_
      · have hin : i < P.length + S.length := by have := of_decide_eq_true hlt; omega
        have c := fun k => cellPS (post := post) hin k
        have e0 : toI (cellAt ((P ++ S).map qrow ++ post) (0 + (i : Int).toNat) 0) = ((P ++ S).getD i default).id := by rw [c]; rfl
        have hle := idPS hP hS hin
        have hll : i < ((P ++ S).map qrow ++ post).length := by simp; omega
        have hle : ¬ ((P ++ S).getD i default).id ≤ cut := fun h => by have := hle.1 h; omega
        repeat ((conv => whnf); (first | refine Cnd.yes ?_ | refine Cnd.no ?_ | refine And.intro rfl ?_ | refine And.intro (by omega) ?_ | (refine And.intro ?_ ?_; focus (simp only [IntKind.wrap_i64, IntKind.wrap_u64, IntKind.wrap_u32]; omega)) | (refine And.intro ?_ ?_; focus (simp only [zl1, zl2, zl3, zl4, zl5, zl6, zl7, zl8, zl9] <;> omega)) | (refine Cnd.tt ?_ ?_; focus (first | (apply decide_eq_true; omega) | (simp only [zq1, zq2, zq3, zq4, zq5, zq6, zq7, zq8, zq9, zq10, zq11, zq12] <;> omega) | rfl)) | (refine Cnd.ff ?_ ?_; focus (first | (apply decide_eq_false; omega) | (simp only [zq1, zq2, zq3, zq4, zq5, zq6, zq7, zq8, zq9, zq10, zq11, zq12] <;> omega) | rfl))))
        conv => whnf
        rw [e0]
        repeat ((conv => whnf); (first | refine Cnd.yes ?_ | refine Cnd.no ?_ | refine And.intro rfl ?_ | refine And.intro (by omega) ?_ | (refine And.intro ?_ ?_; focus (simp only [IntKind.wrap_i64, IntKind.wrap_u64, IntKind.wrap_u32]; omega)) | (refine And.intro ?_ ?_; focus (simp only [zl1, zl2, zl3, zl4, zl5, zl6, zl7, zl8, zl9] <;> omega)) | (refine Cnd.tt ?_ ?_; focus (first | (apply decide_eq_true; omega) | (simp only [zq1, zq2, zq3, zq4, zq5, zq6, zq7, zq8, zq9, zq10, zq11, zq12] <;> omega) | rfl)) | (refine Cnd.ff ?_ ?_; focus (first | (apply decide_eq_false; omega) | (simp only [zq1, zq2, zq3, zq4, zq5, zq6, zq7, zq8, zq9, zq10, zq11, zq12] <;> omega) | rfl))))
        conv => whnf
        (refine ⟨(fun s : Nat => P.length + S.length - s) (i + 1), [0, 1, 2], tmk 42 0 ((fun s : Nat => [(0, .slc 0 7 0 (P.length + S.length)), (1, .fn (.func 34) [] [.ptr 1 0 0 0]), (5, .v (.int .i64 P.length)), (6, .v (.int .i64 s))]) (i + 1)), (fun s : Nat => cHp P S post cut) (i + 1), ?_, ?_⟩; focus (first | (simp only []; omega) | omega))
        repeat ((conv => whnf); (first | refine Cnd.yes ?_ | refine Cnd.no ?_ | refine And.intro rfl ?_ | refine And.intro (by omega) ?_ | (refine And.intro ?_ ?_; focus (simp only [IntKind.wrap_i64, IntKind.wrap_u64, IntKind.wrap_u32]; omega)) | (refine And.intro ?_ ?_; focus (simp only [zl1, zl2, zl3, zl4, zl5, zl6, zl7, zl8, zl9] <;> omega))))
        conv => whnf
        exact ⟨i + 1, ⟨Nat.lt_succ_of_lt hi1, hin⟩, rfl, rfl, (tmkK_eq _ _ _ _).mpr rfl, rfl⟩
      · obtain rfl : i = P.length + S.length := by have := of_decide_eq_false hge; omega
        have hll : P.length + S.length ≤ ((P ++ S).map qrow ++ post).length := by simp
        have hr : ∀ A B : List (List Value), List.take (0 + (P.length : Int).toNat) ((P ++ S).map qrow ++ post) ++ A ++ B = P.map qrow ++ (A ++ B) := fun A B => by
          rw [Nat.zero_add, Int.toNat_natCast, List.map_append, List.append_assoc (P.map qrow), List.take_append_of_le_length (by simp), List.take_of_length_le (by simp), List.append_assoc]
        repeat ((conv => whnf); (first | refine Cnd.yes ?_ | refine Cnd.no ?_ | refine And.intro rfl ?_ | refine And.intro (by omega) ?_ | (refine And.intro ?_ ?_; focus (simp only [IntKind.wrap_i64, IntKind.wrap_u64, IntKind.wrap_u32]; omega)) | (refine And.intro ?_ ?_; focus (simp only [zl1, zl2, zl3, zl4, zl5, zl6, zl7, zl8, zl9] <;> omega)) | (refine Cnd.tt ?_ ?_; focus (first | (apply decide_eq_true; omega) | (simp only [zq1, zq2, zq3, zq4, zq5, zq6, zq7, zq8, zq9, zq10, zq11, zq12] <;> omega) | rfl)) | (refine Cnd.ff ?_ ?_; focus (first | (apply decide_eq_false; omega) | (simp only [zq1, zq2, zq3, zq4, zq5, zq6, zq7, zq8, zq9, zq10, zq11, zq12] <;> omega) | rfl))))
        conv => whnf
        rw [hr]
        refine ⟨[0, 1, 2], .slc 0 7 0 P.length, c2Hp P (List.replicate (((P.length + S.length : Nat) : Int).toNat - (P.length : Int).toNat) [.int .i64 0, .bool false, .bool false, .bool false, .int .u32 0, .int .i64 0, .int .u32 0] ++ List.drop (0 + (P.length : Int).toNat + (((P.length + S.length : Nat) : Int).toNat - (P.length : Int).toNat)) ((P ++ S).map qrow ++ post)) cut, ?_⟩
        repeat ((conv => whnf); (first | refine Cnd.yes ?_ | refine Cnd.no ?_ | refine And.intro rfl ?_ | refine And.intro (by omega) ?_ | (refine And.intro ?_ ?_; focus (simp only [IntKind.wrap_i64, IntKind.wrap_u64, IntKind.wrap_u32]; omega)) | (refine And.intro ?_ ?_; focus (simp only [zl1, zl2, zl3, zl4, zl5, zl6, zl7, zl8, zl9] <;> omega))))
        conv => whnf
        exact hK _
def delS : Vc.Spec := fun args hp _ K => ∃ (P S : List Q7) (post : List (List Value)) (cut : Int), args = [.slc 0 7 0 (P.length + S.length), .fn (.func 34) [] [.ptr 1 0 0 0]] ∧ hp = cHp P S post cut ∧ P.length + S.length ≤ 1000 ∧ (∀ y ∈ P, y.id ≤ cut) ∧ (∀ y ∈ S, cut < y.id) ∧
  ∀ rest, K (.slc 0 7 0 P.length) (c2Hp P rest cut)
theorem del_ok : SOK Tryd.prog 33 delS := by
  refine TOK.weaken (TOK.out (runF_eq GI1_ok mixed at33.1 at33.2 pf33_eq)) fun args hp M K h => ?_
  obtain ⟨P, S, post, cut, rfl, rfl, h1, h2, h3, h4⟩ := h
  exact del_run M K P S post cut h1 h2 h3 h4
noncomputable def specsI2 : Nat → Option Vc.Trans := tget [(33, frameT delS)]
noncomputable def GI2 : Nat → Option Vc.Trans := tabG specsI2 (tget tab) 5
theorem GI2_ok : GOK Tryd.prog GI2 := tabG_ok (GOK.cons (frame_ok del_ok) .nil) tab_ok 5
def kHp (n : Int) (len : Nat) (R : List (List Value)) (cut : Int) : List Ent := [.cells 56 [.v (.int .i64 n), .slc 1 7 0 len], .row true 61 qck R, .cells 3 [.v (.int .i64 cut)]]
theorem keep_run (M : HL) (K : SV → List Ent → HL → Prop) (n : Int) (P S : List Q7) (post : List (List Value)) (cut : Int) (hl : P.length + S.length ≤ 1000) (hP : ∀ y ∈ P, y.id ≤ cut) (hS : ∀ y ∈ S, cut < y.id)
    (hK : ∀ rest, K (.v (.int .i64 S.length)) (kHp n P.length (P.map qrow ++ rest) cut) M) :
    runF GI2 pf25 [.ptr 0 0 0 0, .fn (.func 26) [] [.ptr 2 0 0 0]] (kHp n (P.length + S.length) ((P ++ S).map qrow ++ post) cut) M fun v hp2 M2 => ∃ m v' hp', Wk (llen (kHp n (P.length + S.length) ((P ++ S).map qrow ++ post) cut)) m [v] hp2 [v'] hp' (K v' hp' M2) := by
  have ew : IntKind.i64.wrap (((P.length + S.length : Nat) : Int) - (P.length : Int)) = (S.length : Int) := by rw [IntKind.wrap_i64]; omega
  repeat ((conv => whnf); (first | refine Cnd.yes ?_ | refine Cnd.no ?_ | refine And.intro rfl ?_ | refine And.intro (by omega) ?_ | (refine And.intro ?_ ?_; focus (simp only [IntKind.wrap_i64, IntKind.wrap_u64, IntKind.wrap_u32]; omega)) | (refine And.intro ?_ ?_; focus (simp only [zl1, zl2, zl3, zl4, zl5, zl6, zl7, zl8, zl9] <;> omega)) | (refine Cnd.tt ?_ ?_; focus (first | (apply decide_eq_true; omega) | (simp only [zq1, zq2, zq3, zq4, zq5, zq6, zq7, zq8, zq9, zq10, zq11, zq12] <;> omega) | rfl)) | (refine Cnd.ff ?_ ?_; focus (first | (apply decide_eq_false; omega) | (simp only [zq1, zq2, zq3, zq4, zq5, zq6, zq7, zq8, zq9, zq10, zq11, zq12] <;> omega) | rfl))))
  conv => whnf
  refine ⟨P, S, post, cut, rfl, rfl, hl, hP, hS, fun rest => ?_⟩
  repeat ((conv => whnf); (first | refine Cnd.yes ?_ | refine Cnd.no ?_ | refine And.intro rfl ?_ | refine And.intro (by omega) ?_ | (refine And.intro ?_ ?_; focus (simp only [IntKind.wrap_i64, IntKind.wrap_u64, IntKind.wrap_u32]; omega)) | (refine And.intro ?_ ?_; focus (simp only [zl1, zl2, zl3, zl4, zl5, zl6, zl7, zl8, zl9] <;> omega)) | (refine Cnd.tt ?_ ?_; focus (first | (apply decide_eq_true; omega) | (simp only [zq1, zq2, zq3, zq4, zq5, zq6, zq7, zq8, zq9, zq10, zq11, zq12] <;> omega) | rfl)) | (refine Cnd.ff ?_ ?_; focus (first | (apply decide_eq_false; omega) | (simp only [zq1, zq2, zq3, zq4, zq5, zq6, zq7, zq8, zq9, zq10, zq11, zq12] <;> omega) | rfl))))
  conv => whnf
  rw [ew]
  refine ⟨[0, 1, 2], .v (.int .i64 S.length), kHp n P.length (P.map qrow ++ rest) cut, ?_⟩
  repeat ((conv => whnf); (first | refine Cnd.yes ?_ | refine Cnd.no ?_ | refine And.intro rfl ?_ | refine And.intro (by omega) ?_ | (refine And.intro ?_ ?_; focus (simp only [IntKind.wrap_i64, IntKind.wrap_u64, IntKind.wrap_u32]; omega)) | (refine And.intro ?_ ?_; focus (simp only [zl1, zl2, zl3, zl4, zl5, zl6, zl7, zl8, zl9] <;> omega))))
  conv => whnf
  exact hK _
def keepS : Vc.Spec := fun args hp _ K => ∃ (n : Int) (P S : List Q7) (post : List (List Value)) (cut : Int), args = [.ptr 0 0 0 0, .fn (.func 26) [] [.ptr 2 0 0 0]] ∧ hp = kHp n (P.length + S.length) ((P ++ S).map qrow ++ post) cut ∧ P.length + S.length ≤ 1000 ∧ (∀ y ∈ P, y.id ≤ cut) ∧ (∀ y ∈ S, cut < y.id) ∧
  ∀ rest, K (.v (.int .i64 S.length)) (kHp n P.length (P.map qrow ++ rest) cut)
theorem keep_ok : SOK Tryd.prog 25 keepS := by
  refine TOK.weaken (TOK.out (runF_eq GI2_ok mixed at25.1 at25.2 pf25_eq)) fun args hp M K h => ?_
  obtain ⟨n, P, S, post, cut, rfl, rfl, h1, h2, h3, h4⟩ := h
  exact keep_run M K n P S post cut h1 h2 h3 h4
noncomputable def specsI3 : Nat → Option Vc.Trans := tget [(25, frameT keepS)]
noncomputable def GI3 : Nat → Option Vc.Trans := tabG specsI3 (tget tab) 5
theorem GI3_ok : GOK Tryd.prog GI3 := tabG_ok (GOK.cons (frame_ok keep_ok) .nil) tab_ok 5
theorem cut_run (M : HL) (K : SV → List Ent → HL → Prop) (n : Int) (P S : List Q7) (post : List (List Value)) (cut : Int) (hl : P.length + S.length ≤ 1000) (hP : ∀ y ∈ P, y.id ≤ cut) (hS : ∀ y ∈ S, cut < y.id)
    (hK : ∀ rest, K (.v (.int .i64 S.length)) (qHp true n P rest) M) :
    runF GI3 pf16 [.ptr 0 0 0 0, .v (.int .i64 cut)] [.cells 56 [.v (.int .i64 n), .slc 1 7 0 (P.length + S.length)], .row true 61 qck ((P ++ S).map qrow ++ post)] M fun v hp2 M2 => ∃ m v' hp', Wk (llen [Ent.cells 56 [.v (.int .i64 n), .slc 1 7 0 (P.length + S.length)], .row true 61 qck ((P ++ S).map qrow ++ post)]) m [v] hp2 [v'] hp' (K v' hp' M2) := by
  repeat ((conv => whnf); (first | refine Cnd.yes ?_ | refine Cnd.no ?_ | refine And.intro rfl ?_ | refine And.intro (by omega) ?_ | (refine And.intro ?_ ?_; focus (simp only [IntKind.wrap_i64, IntKind.wrap_u64, IntKind.wrap_u32]; omega)) | (refine And.intro ?_ ?_; focus (simp only [zl1, zl2, zl3, zl4, zl5, zl6, zl7, zl8, zl9] <;> omega)) | (refine Cnd.tt ?_ ?_; focus (first | (apply decide_eq_true; omega) | (simp only [zq1, zq2, zq3, zq4, zq5, zq6, zq7, zq8, zq9, zq10, zq11, zq12] <;> omega) | rfl)) | (refine Cnd.ff ?_ ?_; focus (first | (apply decide_eq_false; omega) | (simp only [zq1, zq2, zq3, zq4, zq5, zq6, zq7, zq8, zq9, zq10, zq11, zq12] <;> omega) | rfl))))
  conv => whnf
  refine ⟨n, P, S, post, cut, rfl, rfl, hl, hP, hS, fun rest => ?_⟩
  repeat ((conv => whnf); (first | refine Cnd.yes ?_ | refine Cnd.no ?_ | refine And.intro rfl ?_ | refine And.intro (by omega) ?_ | (refine And.intro ?_ ?_; focus (simp only [IntKind.wrap_i64, IntKind.wrap_u64, IntKind.wrap_u32]; omega)) | (refine And.intro ?_ ?_; focus (simp only [zl1, zl2, zl3, zl4, zl5, zl6, zl7, zl8, zl9] <;> omega)) | (refine Cnd.tt ?_ ?_; focus (first | (apply decide_eq_true; omega) | (simp only [zq1, zq2, zq3, zq4, zq5, zq6, zq7, zq8, zq9, zq10, zq11, zq12] <;> omega) | rfl)) | (refine Cnd.ff ?_ ?_; focus (first | (apply decide_eq_false; omega) | (simp only [zq1, zq2, zq3, zq4, zq5, zq6, zq7, zq8, zq9, zq10, zq11, zq12] <;> omega) | rfl))))
  conv => whnf
  refine ⟨[0, 1], .v (.int .i64 S.length), qHp true n P rest, ?_⟩
  repeat ((conv => whnf); (first | refine Cnd.yes ?_ | refine Cnd.no ?_ | refine And.intro rfl ?_ | refine And.intro (by omega) ?_ | (refine And.intro ?_ ?_; focus (simp only [IntKind.wrap_i64, IntKind.wrap_u64, IntKind.wrap_u32]; omega)) | (refine And.intro ?_ ?_; focus (simp only [zl1, zl2, zl3, zl4, zl5, zl6, zl7, zl8, zl9] <;> omega))))
  conv => whnf
  exact hK _
def cutS : Vc.Spec := fun args hp _ K => ∃ (n : Int) (P S : List Q7) (post : List (List Value)) (cut : Int), args = [.ptr 0 0 0 0, .v (.int .i64 cut)] ∧ hp = [.cells 56 [.v (.int .i64 n), .slc 1 7 0 (P.length + S.length)], .row true 61 qck ((P ++ S).map qrow ++ post)] ∧ P.length + S.length ≤ 1000 ∧ (∀ y ∈ P, y.id ≤ cut) ∧ (∀ y ∈ S, cut < y.id) ∧
  ∀ rest, K (.v (.int .i64 S.length)) (qHp true n P rest)
theorem cut_ok : SOK Tryd.prog 16 cutS := by
  refine TOK.weaken (TOK.out (runF_eq GI3_ok mixed at16.1 at16.2 pf16_eq)) fun args hp M K h => ?_
  obtain ⟨n, P, S, post, cut, rfl, rfl, h1, h2, h3, h4⟩ := h
  exact cut_run M K n P S post cut h1 h2 h3 h4
end Go.Proofs.YtjbknaniihkcnaaDoor
