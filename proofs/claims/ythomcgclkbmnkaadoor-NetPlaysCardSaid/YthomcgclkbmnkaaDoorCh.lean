/-
  The net: where a message stands, Head, Grow, Concat, Take, walked; their contracts.
-/
import Derived.Test.YthomcgclkbmnkaaDoorCd
namespace Go.Proofs.YthomcgclkbmnkaaDoor
open Go Go.Vc
set_option maxRecDepth 100000
set_option linter.unusedSimpArgs false
set_option linter.unusedVariables false
set_option maxHeartbeats 4000000
/-- Where a number stands first; -1: nowhere. -/
def IxF (id : Int) (L : List Fl) (k : Int) : Prop := (k = -1 ∧ ∀ y ∈ L, y.1 ≠ id) ∨ ∃ (P : List Fl) (m : Msg) (Q : List Fl), L = P ++ (id, m) :: Q ∧ k = P.length ∧ ∀ y ∈ P, y.1 ≠ id
theorem ixF_uniq {id : Int} {m m' : Msg} {Q Q' : List Fl} : ∀ {P P' : List Fl}, P ++ (id, m) :: Q = P' ++ (id, m') :: Q' → (∀ y ∈ P, y.1 ≠ id) → (∀ y ∈ P', y.1 ≠ id) → P.length = P'.length
  | [], [], _, _, _ => rfl
  | [], b :: t, h, _, h2 => by
    rw [List.nil_append, List.cons_append, List.cons.injEq] at h
    exact absurd (by rw [← h.1]) (h2 b (by simp))
  | a :: t, [], h, h1, _ => by
    rw [List.nil_append, List.cons_append, List.cons.injEq] at h
    exact absurd (by rw [h.1]) (h1 a (by simp))
  | a :: t, b :: t', h, h1, h2 => by
    rw [List.cons_append, List.cons_append, List.cons.injEq] at h
    rw [List.length_cons, List.length_cons, ixF_uniq h.2 (fun y hy => h1 y (by simp [hy])) (fun y hy => h2 y (by simp [hy]))]
theorem IxF.at {id k : Int} {P : List Fl} {m : Msg} {Q : List Fl} (h : IxF id (P ++ (id, m) :: Q) k) (hP : ∀ y ∈ P, y.1 ≠ id) : k = P.length := by
  rcases h with ⟨_, h⟩ | ⟨P', m', Q', h1, h2, h3⟩
  · exact absurd rfl (h (id, m) (by simp))
  · rw [h2, ixF_uniq h1 hP h3]
theorem cellF (L : List Fl) {i : Nat} (hi : i < L.length) (k : Nat) : cellAt (L.map frow) (0 + (i : Int).toNat) k = (frow (L.getD i default)).getD k undef := by
  rw [Nat.zero_add, Int.toNat_natCast]
  simp [cellAt, List.getD, hi]
theorem fidx_run (M : HL) (K : SV → List Ent → HL → Prop) (o : Bool) (id : Int) (L : List Fl) (hl : L.length ≤ 3000)
    (hK : ∀ k, IxF id L k → K (.v (.int .i64 k)) [.row o 44 fck (L.map frow), .cells 3 [.v (.int .i64 id)]] M) :
    runF G0 pf42 [.slc 0 12 0 L.length, .fn (.func 43) [] [.ptr 1 0 0 0]] [.row o 44 fck (L.map frow), .cells 3 [.v (.int .i64 id)]] M fun v hp2 M2 => ∃ m v' hp', Wk (llen [Ent.row o 44 fck (L.map frow), .cells 3 [.v (.int .i64 id)]]) m [v] hp2 [v'] hp' (K v' hp' M2) := by
  repeat ((conv => whnf); (first | refine Cnd.yes ?_ | refine Cnd.no ?_ | refine And.intro rfl ?_ | refine And.intro (by omega) ?_ | (refine And.intro ?_ ?_; focus (simp only [IntKind.wrap_i64, IntKind.wrap_u64, IntKind.wrap_u32]; omega)) | (refine And.intro ?_ ?_; focus (simp only [zl1, zl2, zl3, zl4, zl5, zl6, zl7, zl8, zl9] <;> omega)) | refine Alt.std ?_ | (refine Cnd.tt ?_ ?_; focus (first | (apply decide_eq_true; omega) | (simp only [zq1, zq2, zq3, zq4, zq5, zq6, zq7, zq8, zq9, zq10, zq11, zq12] <;> omega) | rfl)) | (refine Cnd.ff ?_ ?_; focus (first | (apply decide_eq_false; omega) | (simp only [zq1, zq2, zq3, zq4, zq5, zq6, zq7, zq8, zq9, zq10, zq11, zq12] <;> omega) | rfl))))
  conv => whnf
  refine ⟨InvS 19 (fun s : Nat => L.length - s) (fun s : Nat => s ≤ L.length ∧ ∀ y ∈ L.take s, y.1 ≠ id) (fun s : Nat => [(0, .slc 0 12 0 L.length), (1, .fn (.func 43) [] [.ptr 1 0 0 0]), (7, .v (.int .i64 L.length)), (8, .v (.int .i64 s))]) (fun s : Nat => [Ent.row o 44 fck (L.map frow), .cells 3 [.v (.int .i64 id)]]) M, ⟨(fun s : Nat => L.length - s) 0, [0, 1], tmk 19 0 ((fun s : Nat => [(0, .slc 0 12 0 L.length), (1, .fn (.func 43) [] [.ptr 1 0 0 0]), (7, .v (.int .i64 L.length)), (8, .v (.int .i64 s))]) 0), (fun s : Nat => [Ent.row o 44 fck (L.map frow), .cells 3 [.v (.int .i64 id)]]) 0, ?_⟩, ?_⟩
  · repeat ((conv => whnf); (first | refine Cnd.yes ?_ | refine Cnd.no ?_ | refine And.intro rfl ?_ | refine And.intro (by omega) ?_ | (refine And.intro ?_ ?_; focus (simp only [IntKind.wrap_i64, IntKind.wrap_u64, IntKind.wrap_u32]; omega)) | (refine And.intro ?_ ?_; focus (simp only [zl1, zl2, zl3, zl4, zl5, zl6, zl7, zl8, zl9] <;> omega)) | refine Alt.std ?_))
    conv => whnf
    exact ⟨0, ⟨Nat.zero_le _, fun y hy => by cases hy⟩, rfl, rfl, (tmkK_eq _ _ _ _).mpr rfl, rfl⟩
  · rintro cnt tm hp M1 ⟨i, hC_, rfl, rfl, htm, hhp_⟩
    replace hC_ : i ≤ L.length ∧ ∀ y ∈ L.take i, y.1 ≠ id := hC_
    obtain ⟨hi, hall⟩ := hC_
    replace htm : tmkK 19 0 [(0, .slc 0 12 0 L.length), (1, .fn (.func 43) [] [.ptr 1 0 0 0]), (7, .v (.int .i64 L.length)), (8, .v (.int .i64 i))] (fun l => tm = l) := htm
    conv at htm => whnf
    subst htm
    replace hhp_ : hp = [Ent.row o 44 fck (L.map frow), .cells 3 [.v (.int .i64 id)]] := hhp_
    subst hhp_
    repeat ((conv => whnf); (first | refine Cnd.yes ?_ | refine Cnd.no ?_ | refine And.intro rfl ?_ | refine And.intro (by omega) ?_ | (refine And.intro ?_ ?_; focus (simp only [IntKind.wrap_i64, IntKind.wrap_u64, IntKind.wrap_u32]; omega)) | (refine And.intro ?_ ?_; focus (simp only [zl1, zl2, zl3, zl4, zl5, zl6, zl7, zl8, zl9] <;> omega)) | refine Alt.std ?_ | (refine Cnd.tt ?_ ?_; focus (first | (apply decide_eq_true; omega) | (simp only [zq1, zq2, zq3, zq4, zq5, zq6, zq7, zq8, zq9, zq10, zq11, zq12] <;> omega) | rfl)) | (refine Cnd.ff ?_ ?_; focus (first | (apply decide_eq_false; omega) | (simp only [zq1, zq2, zq3, zq4, zq5, zq6, zq7, zq8, zq9, zq10, zq11, zq12] <;> omega) | rfl))))
    conv => whnf
    refine Cnd.mk (fun hlt => ?_) fun hge => ?_
    · have hin : i < L.length := by have := of_decide_eq_true hlt; omega
      have ht : L.take (i + 1) = L.take i ++ [L.getD i default] := by
        rw [← List.take_append_getElem hin]
        simp [List.getD, hin]
      have hsp : L = L.take i ++ L.getD i default :: L.drop (i + 1) := by
        conv => lhs; rw [← List.take_append_drop (i + 1) L, ht]
        simp
      have e0 : toI (cellAt (L.map frow) (0 + (i : Int).toNat) 0) = (L.getD i default).1 := by rw [cellF L hin]; rfl
      have hall' : (L.getD i default).1 ≠ id → ∀ y ∈ L.take (i + 1), y.1 ≠ id := fun h y hy => by
        rw [ht] at hy
        rcases List.mem_append.1 hy with h1 | h1
        · exact hall y h1
        · rw [List.mem_singleton.1 h1]; exact h
      repeat ((conv => whnf); (first | refine Cnd.yes ?_ | refine Cnd.no ?_ | refine And.intro rfl ?_ | refine And.intro (by omega) ?_ | (refine And.intro ?_ ?_; focus (simp only [IntKind.wrap_i64, IntKind.wrap_u64, IntKind.wrap_u32]; omega)) | (refine And.intro ?_ ?_; focus (simp only [zl1, zl2, zl3, zl4, zl5, zl6, zl7, zl8, zl9] <;> omega)) | refine Alt.std ?_ | (refine Cnd.tt ?_ ?_; focus (first | (apply decide_eq_true; omega) | (simp only [zq1, zq2, zq3, zq4, zq5, zq6, zq7, zq8, zq9, zq10, zq11, zq12] <;> omega) | rfl)) | (refine Cnd.ff ?_ ?_; focus (first | (apply decide_eq_false; omega) | (simp only [zq1, zq2, zq3, zq4, zq5, zq6, zq7, zq8, zq9, zq10, zq11, zq12] <;> omega) | rfl))))
      conv => whnf
      rw [e0]
      by_cases h : (L.getD i default).1 = id
      · repeat ((conv => whnf); (first | refine Cnd.yes ?_ | refine Cnd.no ?_ | refine And.intro rfl ?_ | refine And.intro (by omega) ?_ | (refine And.intro ?_ ?_; focus (simp only [IntKind.wrap_i64, IntKind.wrap_u64, IntKind.wrap_u32]; omega)) | (refine And.intro ?_ ?_; focus (simp only [zl1, zl2, zl3, zl4, zl5, zl6, zl7, zl8, zl9] <;> omega)) | refine Alt.std ?_ | (refine Cnd.tt ?_ ?_; focus (first | (apply decide_eq_true; omega) | (simp only [zq1, zq2, zq3, zq4, zq5, zq6, zq7, zq8, zq9, zq10, zq11, zq12] <;> omega) | rfl)) | (refine Cnd.ff ?_ ?_; focus (first | (apply decide_eq_false; omega) | (simp only [zq1, zq2, zq3, zq4, zq5, zq6, zq7, zq8, zq9, zq10, zq11, zq12] <;> omega) | rfl))))
        conv => whnf
        refine ⟨[0, 1], .v (.int .i64 i), [.row o 44 fck (L.map frow), .cells 3 [.v (.int .i64 id)]], ?_⟩
        repeat ((conv => whnf); (first | refine Cnd.yes ?_ | refine Cnd.no ?_ | refine And.intro rfl ?_ | refine And.intro (by omega) ?_ | (refine And.intro ?_ ?_; focus (simp only [IntKind.wrap_i64, IntKind.wrap_u64, IntKind.wrap_u32]; omega)) | (refine And.intro ?_ ?_; focus (simp only [zl1, zl2, zl3, zl4, zl5, zl6, zl7, zl8, zl9] <;> omega)) | refine Alt.std ?_))
        conv => whnf
        exact hK _ (.inr ⟨L.take i, (L.getD i default).2, L.drop (i + 1), by rw [← h]; exact hsp, by rw [List.length_take]; omega, hall⟩)
      · repeat ((conv => whnf); (first | refine Cnd.yes ?_ | refine Cnd.no ?_ | refine And.intro rfl ?_ | refine And.intro (by omega) ?_ | (refine And.intro ?_ ?_; focus (simp only [IntKind.wrap_i64, IntKind.wrap_u64, IntKind.wrap_u32]; omega)) | (refine And.intro ?_ ?_; focus (simp only [zl1, zl2, zl3, zl4, zl5, zl6, zl7, zl8, zl9] <;> omega)) | refine Alt.std ?_ | (refine Cnd.tt ?_ ?_; focus (first | (apply decide_eq_true; omega) | (simp only [zq1, zq2, zq3, zq4, zq5, zq6, zq7, zq8, zq9, zq10, zq11, zq12] <;> omega) | rfl)) | (refine Cnd.ff ?_ ?_; focus (first | (apply decide_eq_false; omega) | (simp only [zq1, zq2, zq3, zq4, zq5, zq6, zq7, zq8, zq9, zq10, zq11, zq12] <;> omega) | rfl))))
        conv => whnf
        (refine ⟨(fun s : Nat => L.length - s) (i + 1), [0, 1], tmk 19 0 ((fun s : Nat => [(0, .slc 0 12 0 L.length), (1, .fn (.func 43) [] [.ptr 1 0 0 0]), (7, .v (.int .i64 L.length)), (8, .v (.int .i64 s))]) (i + 1)), (fun s : Nat => [Ent.row o 44 fck (L.map frow), .cells 3 [.v (.int .i64 id)]]) (i + 1), ?_, ?_⟩; focus (first | (simp only []; omega) | omega))
        repeat ((conv => whnf); (first | refine Cnd.yes ?_ | refine Cnd.no ?_ | refine And.intro rfl ?_ | refine And.intro (by omega) ?_ | (refine And.intro ?_ ?_; focus (simp only [IntKind.wrap_i64, IntKind.wrap_u64, IntKind.wrap_u32]; omega)) | (refine And.intro ?_ ?_; focus (simp only [zl1, zl2, zl3, zl4, zl5, zl6, zl7, zl8, zl9] <;> omega)) | refine Alt.std ?_))
        conv => whnf
        exact ⟨i + 1, ⟨hin, hall' h⟩, rfl, rfl, (tmkK_eq _ _ _ _).mpr rfl, rfl⟩
    · obtain rfl : i = L.length := by have := of_decide_eq_false hge; omega
      rw [List.take_length] at hall
      repeat ((conv => whnf); (first | refine Cnd.yes ?_ | refine Cnd.no ?_ | refine And.intro rfl ?_ | refine And.intro (by omega) ?_ | (refine And.intro ?_ ?_; focus (simp only [IntKind.wrap_i64, IntKind.wrap_u64, IntKind.wrap_u32]; omega)) | (refine And.intro ?_ ?_; focus (simp only [zl1, zl2, zl3, zl4, zl5, zl6, zl7, zl8, zl9] <;> omega)) | refine Alt.std ?_ | (refine Cnd.tt ?_ ?_; focus (first | (apply decide_eq_true; omega) | (simp only [zq1, zq2, zq3, zq4, zq5, zq6, zq7, zq8, zq9, zq10, zq11, zq12] <;> omega) | rfl)) | (refine Cnd.ff ?_ ?_; focus (first | (apply decide_eq_false; omega) | (simp only [zq1, zq2, zq3, zq4, zq5, zq6, zq7, zq8, zq9, zq10, zq11, zq12] <;> omega) | rfl))))
      conv => whnf
      refine ⟨[0, 1], .v (.int .i64 (-1)), [.row o 44 fck (L.map frow), .cells 3 [.v (.int .i64 id)]], ?_⟩
      repeat ((conv => whnf); (first | refine Cnd.yes ?_ | refine Cnd.no ?_ | refine And.intro rfl ?_ | refine And.intro (by omega) ?_ | (refine And.intro ?_ ?_; focus (simp only [IntKind.wrap_i64, IntKind.wrap_u64, IntKind.wrap_u32]; omega)) | (refine And.intro ?_ ?_; focus (simp only [zl1, zl2, zl3, zl4, zl5, zl6, zl7, zl8, zl9] <;> omega)) | refine Alt.std ?_))
      conv => whnf
      exact hK _ (.inl ⟨rfl, hall⟩)
def fidxS : Vc.Spec := fun args hp _ K => ∃ (o : Bool) (id : Int) (L : List Fl), args = [.slc 0 12 0 L.length, .fn (.func 43) [] [.ptr 1 0 0 0]] ∧ hp = [.row o 44 fck (L.map frow), .cells 3 [.v (.int .i64 id)]] ∧ L.length ≤ 3000 ∧
  ∀ k, IxF id L k → K (.v (.int .i64 k)) [.row o 44 fck (L.map frow), .cells 3 [.v (.int .i64 id)]]
theorem fidx_ok : SOK Tryd.prog 42 fidxS := by
  refine TOK.weaken (TOK.out (runF_eq G0_ok mixed at42.1 at42.2 pf42_eq)) fun args hp M K h => ?_
  obtain ⟨o, id, L, rfl, rfl, h1, h2⟩ := h
  exact fidx_run M K o id L h1 h2
noncomputable def specsH1 : Nat → Option Vc.Trans := tget [(42, frameT fidxS)]
noncomputable def GH1 : Nat → Option Vc.Trans := tabG specsH1 (tget tab) 5
theorem GH1_ok : GOK Tryd.prog GH1 := tabG_ok (GOK.cons (frame_ok fidx_ok) .nil) tab_ok 5
theorem fat_runT (M : HL) (K : SV → List Ent → HL → Prop) (h r nx id : Int) (L : List Fl) (hl : L.length ≤ 3000) (hK : ∀ k, IxF id L k → K (.v (.int .i64 k)) (netHp true h r nx L) M) :
    runF GH1 pf33 [.ptr 0 0 0 0, .v (.int .i64 id)] (netHp true h r nx L) M fun v hp2 M2 => ∃ m v' hp', Wk (llen (netHp true h r nx L)) m [v] hp2 [v'] hp' (K v' hp' M2) := by
  repeat ((conv => whnf); (first | refine Cnd.yes ?_ | refine Cnd.no ?_ | refine And.intro rfl ?_ | refine And.intro (by omega) ?_ | (refine And.intro ?_ ?_; focus (simp only [IntKind.wrap_i64, IntKind.wrap_u64, IntKind.wrap_u32]; omega)) | (refine And.intro ?_ ?_; focus (simp only [zl1, zl2, zl3, zl4, zl5, zl6, zl7, zl8, zl9] <;> omega)) | refine Alt.std ?_ | (refine Cnd.tt ?_ ?_; focus (first | (apply decide_eq_true; omega) | (simp only [zq1, zq2, zq3, zq4, zq5, zq6, zq7, zq8, zq9, zq10, zq11, zq12] <;> omega) | rfl)) | (refine Cnd.ff ?_ ?_; focus (first | (apply decide_eq_false; omega) | (simp only [zq1, zq2, zq3, zq4, zq5, zq6, zq7, zq8, zq9, zq10, zq11, zq12] <;> omega) | rfl))))
  conv => whnf
  refine ⟨true, id, L, rfl, rfl, hl, fun k hk => ?_⟩
  repeat ((conv => whnf); (first | refine Cnd.yes ?_ | refine Cnd.no ?_ | refine And.intro rfl ?_ | refine And.intro (by omega) ?_ | (refine And.intro ?_ ?_; focus (simp only [IntKind.wrap_i64, IntKind.wrap_u64, IntKind.wrap_u32]; omega)) | (refine And.intro ?_ ?_; focus (simp only [zl1, zl2, zl3, zl4, zl5, zl6, zl7, zl8, zl9] <;> omega)) | refine Alt.std ?_ | (refine Cnd.tt ?_ ?_; focus (first | (apply decide_eq_true; omega) | (simp only [zq1, zq2, zq3, zq4, zq5, zq6, zq7, zq8, zq9, zq10, zq11, zq12] <;> omega) | rfl)) | (refine Cnd.ff ?_ ?_; focus (first | (apply decide_eq_false; omega) | (simp only [zq1, zq2, zq3, zq4, zq5, zq6, zq7, zq8, zq9, zq10, zq11, zq12] <;> omega) | rfl))))
  conv => whnf
  refine ⟨[0, 1], .v (.int .i64 k), netHp true h r nx L, ?_⟩
  repeat ((conv => whnf); (first | refine Cnd.yes ?_ | refine Cnd.no ?_ | refine And.intro rfl ?_ | refine And.intro (by omega) ?_ | (refine And.intro ?_ ?_; focus (simp only [IntKind.wrap_i64, IntKind.wrap_u64, IntKind.wrap_u32]; omega)) | (refine And.intro ?_ ?_; focus (simp only [zl1, zl2, zl3, zl4, zl5, zl6, zl7, zl8, zl9] <;> omega)) | refine Alt.std ?_))
  conv => whnf
  exact hK k hk
theorem fat_runF (M : HL) (K : SV → List Ent → HL → Prop) (h r nx id : Int) (L : List Fl) (hl : L.length ≤ 3000) (hK : ∀ k, IxF id L k → K (.v (.int .i64 k)) (netHp false h r nx L) M) :
    runF GH1 pf33 [.ptr 0 0 0 0, .v (.int .i64 id)] (netHp false h r nx L) M fun v hp2 M2 => ∃ m v' hp', Wk (llen (netHp false h r nx L)) m [v] hp2 [v'] hp' (K v' hp' M2) := by
  repeat ((conv => whnf); (first | refine Cnd.yes ?_ | refine Cnd.no ?_ | refine And.intro rfl ?_ | refine And.intro (by omega) ?_ | (refine And.intro ?_ ?_; focus (simp only [IntKind.wrap_i64, IntKind.wrap_u64, IntKind.wrap_u32]; omega)) | (refine And.intro ?_ ?_; focus (simp only [zl1, zl2, zl3, zl4, zl5, zl6, zl7, zl8, zl9] <;> omega)) | refine Alt.std ?_ | (refine Cnd.tt ?_ ?_; focus (first | (apply decide_eq_true; omega) | (simp only [zq1, zq2, zq3, zq4, zq5, zq6, zq7, zq8, zq9, zq10, zq11, zq12] <;> omega) | rfl)) | (refine Cnd.ff ?_ ?_; focus (first | (apply decide_eq_false; omega) | (simp only [zq1, zq2, zq3, zq4, zq5, zq6, zq7, zq8, zq9, zq10, zq11, zq12] <;> omega) | rfl))))
  conv => whnf
  refine ⟨false, id, L, rfl, rfl, hl, fun k hk => ?_⟩
  repeat ((conv => whnf); (first | refine Cnd.yes ?_ | refine Cnd.no ?_ | refine And.intro rfl ?_ | refine And.intro (by omega) ?_ | (refine And.intro ?_ ?_; focus (simp only [IntKind.wrap_i64, IntKind.wrap_u64, IntKind.wrap_u32]; omega)) | (refine And.intro ?_ ?_; focus (simp only [zl1, zl2, zl3, zl4, zl5, zl6, zl7, zl8, zl9] <;> omega)) | refine Alt.std ?_ | (refine Cnd.tt ?_ ?_; focus (first | (apply decide_eq_true; omega) | (simp only [zq1, zq2, zq3, zq4, zq5, zq6, zq7, zq8, zq9, zq10, zq11, zq12] <;> omega) | rfl)) | (refine Cnd.ff ?_ ?_; focus (first | (apply decide_eq_false; omega) | (simp only [zq1, zq2, zq3, zq4, zq5, zq6, zq7, zq8, zq9, zq10, zq11, zq12] <;> omega) | rfl))))
  conv => whnf
  refine ⟨[0, 1], .v (.int .i64 k), netHp false h r nx L, ?_⟩
  repeat ((conv => whnf); (first | refine Cnd.yes ?_ | refine Cnd.no ?_ | refine And.intro rfl ?_ | refine And.intro (by omega) ?_ | (refine And.intro ?_ ?_; focus (simp only [IntKind.wrap_i64, IntKind.wrap_u64, IntKind.wrap_u32]; omega)) | (refine And.intro ?_ ?_; focus (simp only [zl1, zl2, zl3, zl4, zl5, zl6, zl7, zl8, zl9] <;> omega)) | refine Alt.std ?_))
  conv => whnf
  exact hK k hk
def natS : Vc.Spec := fun args hp _ K => ∃ (o : Bool) (h r nx id : Int) (L : List Fl), args = [.ptr 0 0 0 0, .v (.int .i64 id)] ∧ hp = netHp o h r nx L ∧ L.length ≤ 3000 ∧ ∀ k, IxF id L k → K (.v (.int .i64 k)) (netHp o h r nx L)
theorem nat_ok : SOK Tryd.prog 33 natS := by
  refine TOK.weaken (TOK.out (runF_eq GH1_ok mixed at33.1 at33.2 pf33_eq)) fun args hp M K h => ?_
  obtain ⟨o, h', r, nx, id, L, rfl, rfl, h1, h2⟩ := h
  cases o with
  | true => exact fat_runT M K h' r nx id L h1 h2
  | false => exact fat_runF M K h' r nx id L h1 h2
noncomputable def specsH2 : Nat → Option Vc.Trans := tget [(33, frameT natS)]
noncomputable def GH2 : Nat → Option Vc.Trans := tabG specsH2 (tget tab) 5
theorem GH2_ok : GOK Tryd.prog GH2 := tabG_ok (GOK.cons (frame_ok nat_ok) .nil) tab_ok 5
/-- A message as a value. -/
def msgV (m : Msg) : SV := .agg [.v (.int .i64 m.kind), .v (.int .i64 m.line), .v (.int .i64 m.fr), .v (.int .i64 m.to), .v (.int .u32 m.d0), .v (.int .u32 m.d1), .v (.int .u32 m.d2), .v (.int .u32 m.d3), .v (.bool m.has), .v (.bool m.dirty), .v (.bool m.alone)]
def zmsg : Msg := ⟨0, 0, 0, 0, 0, 0, 0, 0, false, false, false⟩
theorem cellPQ (P : List Fl) (x : Fl) (Q : List Fl) (k : Nat) : cellAt ((P ++ x :: Q).map frow) (0 + (P.length : Int).toNat) k = (frow x).getD k undef := cell_mid frow P Q x P.length k rfl
theorem headno_run (M : HL) (K : SV → List Ent → HL → Prop) (h r nx id : Int) (L : List Fl) (hl : L.length ≤ 3000) (hno : ∀ y ∈ L, y.1 ≠ id) (hK : K (.tup [msgV zmsg, .v (.bool false)]) (netHp true h r nx L) M) :
    runF GH2 pf21 [.ptr 0 0 0 0, .v (.int .i64 id)] (netHp true h r nx L) M fun v hp2 M2 => ∃ m v' hp', Wk (llen (netHp true h r nx L)) m [v] hp2 [v'] hp' (K v' hp' M2) := by
  repeat ((conv => whnf); (first | refine Cnd.yes ?_ | refine Cnd.no ?_ | refine And.intro rfl ?_ | refine And.intro (by omega) ?_ | (refine And.intro ?_ ?_; focus (simp only [IntKind.wrap_i64, IntKind.wrap_u64, IntKind.wrap_u32]; omega)) | (refine And.intro ?_ ?_; focus (simp only [zl1, zl2, zl3, zl4, zl5, zl6, zl7, zl8, zl9] <;> omega)) | refine Alt.std ?_ | (refine Cnd.tt ?_ ?_; focus (first | (apply decide_eq_true; omega) | (simp only [zq1, zq2, zq3, zq4, zq5, zq6, zq7, zq8, zq9, zq10, zq11, zq12] <;> omega) | rfl)) | (refine Cnd.ff ?_ ?_; focus (first | (apply decide_eq_false; omega) | (simp only [zq1, zq2, zq3, zq4, zq5, zq6, zq7, zq8, zq9, zq10, zq11, zq12] <;> omega) | rfl))))
  conv => whnf
  refine ⟨true, h, r, nx, id, L, rfl, rfl, hl, fun k hk => ?_⟩
  obtain rfl : k = -1 := by
    rcases hk with ⟨h1, _⟩ | ⟨P, m, Q, rfl, _, _⟩
    · exact h1
    · exact absurd rfl (hno (id, m) (by simp))
  repeat ((conv => whnf); (first | refine Cnd.yes ?_ | refine Cnd.no ?_ | refine And.intro rfl ?_ | refine And.intro (by omega) ?_ | (refine And.intro ?_ ?_; focus (simp only [IntKind.wrap_i64, IntKind.wrap_u64, IntKind.wrap_u32]; omega)) | (refine And.intro ?_ ?_; focus (simp only [zl1, zl2, zl3, zl4, zl5, zl6, zl7, zl8, zl9] <;> omega)) | refine Alt.std ?_ | (refine Cnd.tt ?_ ?_; focus (first | (apply decide_eq_true; omega) | (simp only [zq1, zq2, zq3, zq4, zq5, zq6, zq7, zq8, zq9, zq10, zq11, zq12] <;> omega) | rfl)) | (refine Cnd.ff ?_ ?_; focus (first | (apply decide_eq_false; omega) | (simp only [zq1, zq2, zq3, zq4, zq5, zq6, zq7, zq8, zq9, zq10, zq11, zq12] <;> omega) | rfl))))
  conv => whnf
  refine ⟨[0, 1], .tup [msgV zmsg, .v (.bool false)], netHp true h r nx L, ?_⟩
  repeat ((conv => whnf); (first | refine Cnd.yes ?_ | refine Cnd.no ?_ | refine And.intro rfl ?_ | refine And.intro (by omega) ?_ | (refine And.intro ?_ ?_; focus (simp only [IntKind.wrap_i64, IntKind.wrap_u64, IntKind.wrap_u32]; omega)) | (refine And.intro ?_ ?_; focus (simp only [zl1, zl2, zl3, zl4, zl5, zl6, zl7, zl8, zl9] <;> omega)) | refine Alt.std ?_))
  conv => whnf
  exact hK
theorem head_run (M : HL) (K : SV → List Ent → HL → Prop) (h r nx id : Int) (P : List Fl) (m : Msg) (Q : List Fl) (hl : (P ++ (id, m) :: Q).length ≤ 3000) (hP : ∀ y ∈ P, y.1 ≠ id) (hK : K (.tup [msgV m, .v (.bool true)]) (netHp true h r nx (P ++ (id, m) :: Q)) M) :
    runF GH2 pf21 [.ptr 0 0 0 0, .v (.int .i64 id)] (netHp true h r nx (P ++ (id, m) :: Q)) M fun v hp2 M2 => ∃ m' v' hp', Wk (llen (netHp true h r nx (P ++ (id, m) :: Q))) m' [v] hp2 [v'] hp' (K v' hp' M2) := by
  have hll : (P ++ (id, m) :: Q).length = P.length + 1 + Q.length := by simp; omega
  have c := cellPQ P (id, m) Q
  repeat ((conv => whnf); (first | refine Cnd.yes ?_ | refine Cnd.no ?_ | refine And.intro rfl ?_ | refine And.intro (by omega) ?_ | (refine And.intro ?_ ?_; focus (simp only [IntKind.wrap_i64, IntKind.wrap_u64, IntKind.wrap_u32]; omega)) | (refine And.intro ?_ ?_; focus (simp only [zl1, zl2, zl3, zl4, zl5, zl6, zl7, zl8, zl9] <;> omega)) | refine Alt.std ?_ | (refine Cnd.tt ?_ ?_; focus (first | (apply decide_eq_true; omega) | (simp only [zq1, zq2, zq3, zq4, zq5, zq6, zq7, zq8, zq9, zq10, zq11, zq12] <;> omega) | rfl)) | (refine Cnd.ff ?_ ?_; focus (first | (apply decide_eq_false; omega) | (simp only [zq1, zq2, zq3, zq4, zq5, zq6, zq7, zq8, zq9, zq10, zq11, zq12] <;> omega) | rfl))))
  conv => whnf
  refine ⟨true, h, r, nx, id, P ++ (id, m) :: Q, rfl, rfl, hl, fun k hk => ?_⟩
  obtain rfl : k = P.length := hk.at hP
  repeat ((conv => whnf); (first | refine Cnd.yes ?_ | refine Cnd.no ?_ | refine And.intro rfl ?_ | refine And.intro (by omega) ?_ | (refine And.intro ?_ ?_; focus (simp only [IntKind.wrap_i64, IntKind.wrap_u64, IntKind.wrap_u32]; omega)) | (refine And.intro ?_ ?_; focus (simp only [zl1, zl2, zl3, zl4, zl5, zl6, zl7, zl8, zl9] <;> omega)) | refine Alt.std ?_ | (refine Cnd.tt ?_ ?_; focus (first | (apply decide_eq_true; omega) | (simp only [zq1, zq2, zq3, zq4, zq5, zq6, zq7, zq8, zq9, zq10, zq11, zq12] <;> omega) | rfl)) | (refine Cnd.ff ?_ ?_; focus (first | (apply decide_eq_false; omega) | (simp only [zq1, zq2, zq3, zq4, zq5, zq6, zq7, zq8, zq9, zq10, zq11, zq12] <;> omega) | rfl))))
  conv => whnf
  refine ⟨[0, 1], .tup [msgV m, .v (.bool true)], netHp true h r nx (P ++ (id, m) :: Q), ?_⟩
  repeat ((conv => whnf); (first | refine Cnd.yes ?_ | refine Cnd.no ?_ | refine And.intro rfl ?_ | refine And.intro (by omega) ?_ | (refine And.intro ?_ ?_; focus (simp only [IntKind.wrap_i64, IntKind.wrap_u64, IntKind.wrap_u32]; omega)) | (refine And.intro ?_ ?_; focus (simp only [zl1, zl2, zl3, zl4, zl5, zl6, zl7, zl8, zl9] <;> omega)) | refine Alt.std ?_))
  conv => whnf
  repeat ((conv => whnf); (refine And.intro ?_ ?_; focus (first | rfl | (rw [c]; rfl))))
  repeat ((conv => whnf); (first | refine Cnd.yes ?_ | refine Cnd.no ?_ | refine And.intro rfl ?_ | refine And.intro (by omega) ?_ | (refine And.intro ?_ ?_; focus (simp only [IntKind.wrap_i64, IntKind.wrap_u64, IntKind.wrap_u32]; omega)) | (refine And.intro ?_ ?_; focus (simp only [zl1, zl2, zl3, zl4, zl5, zl6, zl7, zl8, zl9] <;> omega)) | refine Alt.std ?_))
  conv => whnf
  exact hK
def headS : Vc.Spec := fun args hp _ K => (∃ (h r nx id : Int) (L : List Fl), args = [.ptr 0 0 0 0, .v (.int .i64 id)] ∧ hp = netHp true h r nx L ∧ L.length ≤ 3000 ∧ (∀ y ∈ L, y.1 ≠ id) ∧ K (.tup [msgV zmsg, .v (.bool false)]) (netHp true h r nx L)) ∨
  ∃ (h r nx id : Int) (P : List Fl) (m : Msg) (Q : List Fl), args = [.ptr 0 0 0 0, .v (.int .i64 id)] ∧ hp = netHp true h r nx (P ++ (id, m) :: Q) ∧ (P ++ (id, m) :: Q).length ≤ 3000 ∧ (∀ y ∈ P, y.1 ≠ id) ∧ K (.tup [msgV m, .v (.bool true)]) (netHp true h r nx (P ++ (id, m) :: Q))
theorem head_ok : SOK Tryd.prog 21 headS := by
  refine TOK.weaken (TOK.out (runF_eq GH2_ok mixed at21.1 at21.2 pf21_eq)) fun args hp M K h => ?_
  rcases h with ⟨h', r, nx, id, L, rfl, rfl, h1, h2, h3⟩ | ⟨h', r, nx, id, P, m, Q, rfl, rfl, h1, h2, h3⟩
  · exact headno_run M K h' r nx id L h1 h2 h3
  · exact head_run M K h' r nx id P m Q h1 h2 h3
theorem grow_run (M : HL) (K : SV → List Ent → HL → Prop) (n : Nat) (hn : n ≤ 3000) (hK : ∀ rest, K (.slc 0 12 0 0) [.row true 44 fck rest] M) :
    runF G0 pf44 [.v (.slice none 0 0), .v (.int .i64 n)] [] M fun v hp2 M2 => ∃ m v' hp', Wk (llen ([] : List Ent)) m [v] hp2 [v'] hp' (K v' hp' M2) := by
  have e1 : IntKind.i64.wrap ((n : Int) - IntKind.i64.wrap (0 - 0)) = n := by simp only [IntKind.wrap_i64]; omega
  by_cases h0 : n = 0
  · repeat ((conv => whnf); (first | refine Cnd.yes ?_ | refine Cnd.no ?_ | refine And.intro rfl ?_ | refine And.intro (by omega) ?_ | (refine And.intro ?_ ?_; focus (simp only [IntKind.wrap_i64, IntKind.wrap_u64, IntKind.wrap_u32]; omega)) | (refine And.intro ?_ ?_; focus (simp only [zl1, zl2, zl3, zl4, zl5, zl6, zl7, zl8, zl9] <;> omega)) | refine Alt.std ?_ | (refine Cnd.tt ?_ ?_; focus (first | (apply decide_eq_true; omega) | (simp only [zq1, zq2, zq3, zq4, zq5, zq6, zq7, zq8, zq9, zq10, zq11, zq12] <;> omega) | rfl)) | (refine Cnd.ff ?_ ?_; focus (first | (apply decide_eq_false; omega) | (simp only [zq1, zq2, zq3, zq4, zq5, zq6, zq7, zq8, zq9, zq10, zq11, zq12] <;> omega) | rfl))))
    conv => whnf
    refine ⟨[99], .slc 0 12 0 0, [.row true 44 fck []], ?_⟩
    repeat ((conv => whnf); (first | refine Cnd.yes ?_ | refine Cnd.no ?_ | refine And.intro rfl ?_ | refine And.intro (by omega) ?_ | (refine And.intro ?_ ?_; focus (simp only [IntKind.wrap_i64, IntKind.wrap_u64, IntKind.wrap_u32]; omega)) | (refine And.intro ?_ ?_; focus (simp only [zl1, zl2, zl3, zl4, zl5, zl6, zl7, zl8, zl9] <;> omega)) | refine Alt.std ?_))
    conv => whnf
    exact hK _
  · repeat ((conv => whnf); (first | refine Cnd.yes ?_ | refine Cnd.no ?_ | refine And.intro rfl ?_ | refine And.intro (by omega) ?_ | (refine And.intro ?_ ?_; focus (simp only [IntKind.wrap_i64, IntKind.wrap_u64, IntKind.wrap_u32]; omega)) | (refine And.intro ?_ ?_; focus (simp only [zl1, zl2, zl3, zl4, zl5, zl6, zl7, zl8, zl9] <;> omega)) | refine Alt.std ?_ | (refine Cnd.tt ?_ ?_; focus (first | (apply decide_eq_true; omega) | (simp only [zq1, zq2, zq3, zq4, zq5, zq6, zq7, zq8, zq9, zq10, zq11, zq12] <;> omega) | rfl)) | (refine Cnd.ff ?_ ?_; focus (first | (apply decide_eq_false; omega) | (simp only [zq1, zq2, zq3, zq4, zq5, zq6, zq7, zq8, zq9, zq10, zq11, zq12] <;> omega) | rfl))))
    conv => whnf
    refine ⟨[0], .slc 0 12 0 0, [.row true 44 fck (List.replicate (IntKind.i64.wrap ((n : Int) - IntKind.i64.wrap (0 - 0))).toNat [.int .i64 0, .int .i64 0, .int .i64 0, .int .i64 0, .int .i64 0, .int .u32 0, .int .u32 0, .int .u32 0, .int .u32 0, .bool false, .bool false, .bool false])], ?_⟩
    repeat ((conv => whnf); (first | refine Cnd.yes ?_ | refine Cnd.no ?_ | refine And.intro rfl ?_ | refine And.intro (by omega) ?_ | (refine And.intro ?_ ?_; focus (simp only [IntKind.wrap_i64, IntKind.wrap_u64, IntKind.wrap_u32]; omega)) | (refine And.intro ?_ ?_; focus (simp only [zl1, zl2, zl3, zl4, zl5, zl6, zl7, zl8, zl9] <;> omega)) | refine Alt.std ?_))
    conv => whnf
    exact hK _
def growS : Vc.Spec := fun args hp _ K => ∃ n : Nat, args = [.v (.slice none 0 0), .v (.int .i64 n)] ∧ hp = [] ∧ n ≤ 3000 ∧ ∀ rest, K (.slc 0 12 0 0) [.row true 44 fck rest]
theorem grow_ok : SOK Tryd.prog 44 growS := by
  refine TOK.weaken (TOK.out (runF_eq G0_ok mixed at44.1 at44.2 pf44_eq)) fun args hp M K h => ?_
  obtain ⟨n, rfl, rfl, h1, h2⟩ := h
  exact grow_run M K n h1 h2
noncomputable def specsH3 : Nat → Option Vc.Trans := tget [(44, frameT growS)]
noncomputable def GH3 : Nat → Option Vc.Trans := tabG specsH3 (tget tab) 5
theorem GH3_ok : GOK Tryd.prog GH3 := tabG_ok (GOK.cons (frame_ok grow_ok) .nil) tab_ok 5
def sz2 (a b : Nat) : Nat → Nat | 0 => 0 | 1 => a | _ => a + b
def rw2 (A B C : List (List Value)) : Nat → List (List Value) | 0 => A | 1 => B | _ => C
theorem concat_run (M : HL) (K : SV → List Ent → HL → Prop) (o : Bool) (e : TypeId) (y1 y2 : Value) (A B : List (List Value)) (h1 : Vc.RowsIn M 44 fck y1 A) (h2 : Vc.RowsIn M 44 fck y2 B) (hl : A.length + B.length ≤ 3000)
    (hK : K (.slc 1 12 0 (A.length + B.length)) [.row o e [.sl] [[y1], [y2]], .row true 44 fck (A ++ B)] M) :
    runF GH3 pf34 [.slc 0 1 0 2] [.row o e [.sl] [[y1], [y2]]] M fun v hp2 M2 => ∃ m v' hp', Wk (llen [Ent.row o e [.sl] [[y1], [y2]]]) m [v] hp2 [v'] hp' (K v' hp' M2) := by
  have l1 := h1.len
  have l2 := h2.len
  have hz0 : sz2 A.length B.length 0 = 0 := rfl
  have hz1 : sz2 A.length B.length 1 = A.length := rfl
  have hz2 : sz2 A.length B.length 2 = A.length + B.length := rfl
  have ew1 : IntKind.i64.wrap (((sz2 A.length B.length 0 : Nat) : Int) + ((A.length : Nat) : Int)) = ((A.length : Nat) : Int) := by rw [hz0, IntKind.wrap_i64]; omega
  have ew2 : IntKind.i64.wrap (((sz2 A.length B.length 1 : Nat) : Int) + ((B.length : Nat) : Int)) = ((A.length + B.length : Nat) : Int) := by rw [hz1, IntKind.wrap_i64]; omega
  have c1 : slen (cellAt [[y1], [y2]] (0 + ((0 : Nat) : Int).toNat) 0) = A.length := l1
  have c2 : slen (cellAt [[y1], [y2]] (0 + ((1 : Nat) : Int).toNat) 0) = B.length := l2
  repeat ((conv => whnf); (first | refine Cnd.yes ?_ | refine Cnd.no ?_ | refine And.intro rfl ?_ | refine And.intro (by omega) ?_ | (refine And.intro ?_ ?_; focus (simp only [IntKind.wrap_i64, IntKind.wrap_u64, IntKind.wrap_u32]; omega)) | (refine And.intro ?_ ?_; focus (simp only [zl1, zl2, zl3, zl4, zl5, zl6, zl7, zl8, zl9] <;> omega)) | refine Alt.std ?_ | (refine Cnd.tt ?_ ?_; focus (first | (apply decide_eq_true; omega) | (simp only [zq1, zq2, zq3, zq4, zq5, zq6, zq7, zq8, zq9, zq10, zq11, zq12] <;> omega) | rfl)) | (refine Cnd.ff ?_ ?_; focus (first | (apply decide_eq_false; omega) | (simp only [zq1, zq2, zq3, zq4, zq5, zq6, zq7, zq8, zq9, zq10, zq11, zq12] <;> omega) | rfl))))
  conv => whnf
  refine ⟨InvS 36 (fun s : Nat => 2 - s) (fun s : Nat => s ≤ 2) (fun s : Nat => [(0, .slc 0 1 0 2), (3, .v (.int .i64 (sz2 A.length B.length s))), (9, .slc 0 1 0 2), (10, .v (.int .i64 (2 : Nat))), (11, .v (.int .i64 s))]) (fun s : Nat => [Ent.row o e [.sl] [[y1], [y2]]]) M, ⟨(fun s : Nat => 2 - s) 0, [0], tmk 36 0 ((fun s : Nat => [(0, .slc 0 1 0 2), (3, .v (.int .i64 (sz2 A.length B.length s))), (9, .slc 0 1 0 2), (10, .v (.int .i64 (2 : Nat))), (11, .v (.int .i64 s))]) 0), (fun s : Nat => [Ent.row o e [.sl] [[y1], [y2]]]) 0, ?_⟩, ?_⟩
  · repeat ((conv => whnf); (first | refine Cnd.yes ?_ | refine Cnd.no ?_ | refine And.intro rfl ?_ | refine And.intro (by omega) ?_ | (refine And.intro ?_ ?_; focus (simp only [IntKind.wrap_i64, IntKind.wrap_u64, IntKind.wrap_u32]; omega)) | (refine And.intro ?_ ?_; focus (simp only [zl1, zl2, zl3, zl4, zl5, zl6, zl7, zl8, zl9] <;> omega)) | refine Alt.std ?_))
    conv => whnf
    exact ⟨0, Nat.zero_le _, rfl, rfl, (tmkK_eq _ _ _ _).mpr rfl, rfl⟩
  · rintro cnt tm hp M1 ⟨i, hC_, rfl, rfl, htm, hhp_⟩
    replace hC_ : i ≤ 2 := hC_
    have hi := hC_
    replace htm : tmkK 36 0 [(0, .slc 0 1 0 2), (3, .v (.int .i64 (sz2 A.length B.length i))), (9, .slc 0 1 0 2), (10, .v (.int .i64 (2 : Nat))), (11, .v (.int .i64 i))] (fun l => tm = l) := htm
    conv at htm => whnf
    subst htm
    replace hhp_ : hp = [Ent.row o e [.sl] [[y1], [y2]]] := hhp_
    subst hhp_
    rcases (show i = 0 ∨ i = 1 ∨ i = 2 by omega) with rfl | rfl | rfl
    · repeat ((conv => whnf); (first | refine Cnd.yes ?_ | refine Cnd.no ?_ | refine And.intro rfl ?_ | refine And.intro (by omega) ?_ | (refine And.intro ?_ ?_; focus (simp only [IntKind.wrap_i64, IntKind.wrap_u64, IntKind.wrap_u32]; omega)) | (refine And.intro ?_ ?_; focus (simp only [zl1, zl2, zl3, zl4, zl5, zl6, zl7, zl8, zl9] <;> omega)) | refine Alt.std ?_ | (refine Cnd.tt ?_ ?_; focus (first | (apply decide_eq_true; omega) | (simp only [zq1, zq2, zq3, zq4, zq5, zq6, zq7, zq8, zq9, zq10, zq11, zq12] <;> omega) | rfl)) | (refine Cnd.ff ?_ ?_; focus (first | (apply decide_eq_false; omega) | (simp only [zq1, zq2, zq3, zq4, zq5, zq6, zq7, zq8, zq9, zq10, zq11, zq12] <;> omega) | rfl))))
      conv => whnf
      rw [c1]
      repeat ((conv => whnf); (first | refine Cnd.yes ?_ | refine Cnd.no ?_ | refine And.intro rfl ?_ | refine And.intro (by omega) ?_ | (refine And.intro ?_ ?_; focus (simp only [IntKind.wrap_i64, IntKind.wrap_u64, IntKind.wrap_u32]; omega)) | (refine And.intro ?_ ?_; focus (simp only [zl1, zl2, zl3, zl4, zl5, zl6, zl7, zl8, zl9] <;> omega)) | refine Alt.std ?_ | (refine Cnd.tt ?_ ?_; focus (first | (apply decide_eq_true; omega) | (simp only [zq1, zq2, zq3, zq4, zq5, zq6, zq7, zq8, zq9, zq10, zq11, zq12] <;> omega) | rfl)) | (refine Cnd.ff ?_ ?_; focus (first | (apply decide_eq_false; omega) | (simp only [zq1, zq2, zq3, zq4, zq5, zq6, zq7, zq8, zq9, zq10, zq11, zq12] <;> omega) | rfl))))
      conv => whnf
      (refine ⟨(fun s : Nat => 2 - s) (1), [0], tmk 36 0 ((fun s : Nat => [(0, .slc 0 1 0 2), (3, .v (.int .i64 (sz2 A.length B.length s))), (9, .slc 0 1 0 2), (10, .v (.int .i64 (2 : Nat))), (11, .v (.int .i64 s))]) (1)), (fun s : Nat => [Ent.row o e [.sl] [[y1], [y2]]]) (1), ?_, ?_⟩; focus (first | (simp only []; omega) | omega))
      repeat ((conv => whnf); (first | refine Cnd.yes ?_ | refine Cnd.no ?_ | refine And.intro rfl ?_ | refine And.intro (by omega) ?_ | (refine And.intro ?_ ?_; focus (simp only [IntKind.wrap_i64, IntKind.wrap_u64, IntKind.wrap_u32]; omega)) | (refine And.intro ?_ ?_; focus (simp only [zl1, zl2, zl3, zl4, zl5, zl6, zl7, zl8, zl9] <;> omega)) | refine Alt.std ?_))
      conv => whnf
      exact ⟨1, (by omega), rfl, rfl, (tmkK_eq _ _ _ _).mpr rfl, rfl⟩
    · repeat ((conv => whnf); (first | refine Cnd.yes ?_ | refine Cnd.no ?_ | refine And.intro rfl ?_ | refine And.intro (by omega) ?_ | (refine And.intro ?_ ?_; focus (simp only [IntKind.wrap_i64, IntKind.wrap_u64, IntKind.wrap_u32]; omega)) | (refine And.intro ?_ ?_; focus (simp only [zl1, zl2, zl3, zl4, zl5, zl6, zl7, zl8, zl9] <;> omega)) | refine Alt.std ?_ | (refine Cnd.tt ?_ ?_; focus (first | (apply decide_eq_true; omega) | (simp only [zq1, zq2, zq3, zq4, zq5, zq6, zq7, zq8, zq9, zq10, zq11, zq12] <;> omega) | rfl)) | (refine Cnd.ff ?_ ?_; focus (first | (apply decide_eq_false; omega) | (simp only [zq1, zq2, zq3, zq4, zq5, zq6, zq7, zq8, zq9, zq10, zq11, zq12] <;> omega) | rfl))))
      conv => whnf
      rw [c2]
      repeat ((conv => whnf); (first | refine Cnd.yes ?_ | refine Cnd.no ?_ | refine And.intro rfl ?_ | refine And.intro (by omega) ?_ | (refine And.intro ?_ ?_; focus (simp only [IntKind.wrap_i64, IntKind.wrap_u64, IntKind.wrap_u32]; omega)) | (refine And.intro ?_ ?_; focus (simp only [zl1, zl2, zl3, zl4, zl5, zl6, zl7, zl8, zl9] <;> omega)) | refine Alt.std ?_ | (refine Cnd.tt ?_ ?_; focus (first | (apply decide_eq_true; omega) | (simp only [zq1, zq2, zq3, zq4, zq5, zq6, zq7, zq8, zq9, zq10, zq11, zq12] <;> omega) | rfl)) | (refine Cnd.ff ?_ ?_; focus (first | (apply decide_eq_false; omega) | (simp only [zq1, zq2, zq3, zq4, zq5, zq6, zq7, zq8, zq9, zq10, zq11, zq12] <;> omega) | rfl))))
      conv => whnf
      (refine ⟨(fun s : Nat => 2 - s) (2), [0], tmk 36 0 ((fun s : Nat => [(0, .slc 0 1 0 2), (3, .v (.int .i64 (sz2 A.length B.length s))), (9, .slc 0 1 0 2), (10, .v (.int .i64 (2 : Nat))), (11, .v (.int .i64 s))]) (2)), (fun s : Nat => [Ent.row o e [.sl] [[y1], [y2]]]) (2), ?_, ?_⟩; focus (first | (simp only []; omega) | omega))
      repeat ((conv => whnf); (first | refine Cnd.yes ?_ | refine Cnd.no ?_ | refine And.intro rfl ?_ | refine And.intro (by omega) ?_ | (refine And.intro ?_ ?_; focus (simp only [IntKind.wrap_i64, IntKind.wrap_u64, IntKind.wrap_u32]; omega)) | (refine And.intro ?_ ?_; focus (simp only [zl1, zl2, zl3, zl4, zl5, zl6, zl7, zl8, zl9] <;> omega)) | refine Alt.std ?_))
      conv => whnf
      exact ⟨2, (by omega), rfl, rfl, (tmkK_eq _ _ _ _).mpr rfl, rfl⟩
    · repeat ((conv => whnf); (first | refine Cnd.yes ?_ | refine Cnd.no ?_ | refine And.intro rfl ?_ | refine And.intro (by omega) ?_ | (refine And.intro ?_ ?_; focus (simp only [IntKind.wrap_i64, IntKind.wrap_u64, IntKind.wrap_u32]; omega)) | (refine And.intro ?_ ?_; focus (simp only [zl1, zl2, zl3, zl4, zl5, zl6, zl7, zl8, zl9] <;> omega)) | refine Alt.std ?_ | (refine Cnd.tt ?_ ?_; focus (first | (apply decide_eq_true; omega) | (simp only [zq1, zq2, zq3, zq4, zq5, zq6, zq7, zq8, zq9, zq10, zq11, zq12] <;> omega) | rfl)) | (refine Cnd.ff ?_ ?_; focus (first | (apply decide_eq_false; omega) | (simp only [zq1, zq2, zq3, zq4, zq5, zq6, zq7, zq8, zq9, zq10, zq11, zq12] <;> omega) | rfl))))
      conv => whnf
      refine ⟨A.length + B.length, rfl, rfl, hl, fun rest => ?_⟩
      repeat ((conv => whnf); (first | refine Cnd.yes ?_ | refine Cnd.no ?_ | refine And.intro rfl ?_ | refine And.intro (by omega) ?_ | (refine And.intro ?_ ?_; focus (simp only [IntKind.wrap_i64, IntKind.wrap_u64, IntKind.wrap_u32]; omega)) | (refine And.intro ?_ ?_; focus (simp only [zl1, zl2, zl3, zl4, zl5, zl6, zl7, zl8, zl9] <;> omega)) | refine Alt.std ?_ | (refine Cnd.tt ?_ ?_; focus (first | (apply decide_eq_true; omega) | (simp only [zq1, zq2, zq3, zq4, zq5, zq6, zq7, zq8, zq9, zq10, zq11, zq12] <;> omega) | rfl)) | (refine Cnd.ff ?_ ?_; focus (first | (apply decide_eq_false; omega) | (simp only [zq1, zq2, zq3, zq4, zq5, zq6, zq7, zq8, zq9, zq10, zq11, zq12] <;> omega) | rfl))))
      conv => whnf
      refine ⟨InvS 36 (fun s : Nat => 2 - s) (fun s : Nat => s ≤ 2) (fun s : Nat => [(0, .slc 0 1 0 2), (6, .slc 1 12 0 (sz2 A.length B.length s)), (25, .slc 0 1 0 2), (26, .v (.int .i64 (2 : Nat))), (27, .v (.int .i64 s))]) (fun s : Nat => [Ent.row o e [.sl] [[y1], [y2]], .row true 44 fck (rw2 rest A (A ++ B) s)]) M1, ⟨(fun s : Nat => 2 - s) 0, [0, 1], tmk 36 0 ((fun s : Nat => [(0, .slc 0 1 0 2), (6, .slc 1 12 0 (sz2 A.length B.length s)), (25, .slc 0 1 0 2), (26, .v (.int .i64 (2 : Nat))), (27, .v (.int .i64 s))]) 0), (fun s : Nat => [Ent.row o e [.sl] [[y1], [y2]], .row true 44 fck (rw2 rest A (A ++ B) s)]) 0, ?_⟩, ?_⟩
      · repeat ((conv => whnf); (first | refine Cnd.yes ?_ | refine Cnd.no ?_ | refine And.intro rfl ?_ | refine And.intro (by omega) ?_ | (refine And.intro ?_ ?_; focus (simp only [IntKind.wrap_i64, IntKind.wrap_u64, IntKind.wrap_u32]; omega)) | (refine And.intro ?_ ?_; focus (simp only [zl1, zl2, zl3, zl4, zl5, zl6, zl7, zl8, zl9] <;> omega)) | refine Alt.std ?_))
        conv => whnf
        exact ⟨0, Nat.zero_le _, rfl, rfl, (tmkK_eq _ _ _ _).mpr rfl, rfl⟩
      · rintro cnt tm hp M1 ⟨i, hC_, rfl, rfl, htm, hhp_⟩
        replace hC_ : i ≤ 2 := hC_
        have hi := hC_
        replace htm : tmkK 36 0 [(0, .slc 0 1 0 2), (6, .slc 1 12 0 (sz2 A.length B.length i)), (25, .slc 0 1 0 2), (26, .v (.int .i64 (2 : Nat))), (27, .v (.int .i64 i))] (fun l => tm = l) := htm
        conv at htm => whnf
        subst htm
        replace hhp_ : hp = [Ent.row o e [.sl] [[y1], [y2]], .row true 44 fck (rw2 rest A (A ++ B) i)] := hhp_
        subst hhp_
        rcases (show i = 0 ∨ i = 1 ∨ i = 2 by omega) with rfl | rfl | rfl
        · repeat ((conv => whnf); (first | refine Cnd.yes ?_ | refine Cnd.no ?_ | refine And.intro rfl ?_ | refine And.intro (by omega) ?_ | (refine And.intro ?_ ?_; focus (simp only [IntKind.wrap_i64, IntKind.wrap_u64, IntKind.wrap_u32]; omega)) | (refine And.intro ?_ ?_; focus (simp only [zl1, zl2, zl3, zl4, zl5, zl6, zl7, zl8, zl9] <;> omega)) | refine Alt.std ?_ | (refine Cnd.tt ?_ ?_; focus (first | (apply decide_eq_true; omega) | (simp only [zq1, zq2, zq3, zq4, zq5, zq6, zq7, zq8, zq9, zq10, zq11, zq12] <;> omega) | rfl)) | (refine Cnd.ff ?_ ?_; focus (first | (apply decide_eq_false; omega) | (simp only [zq1, zq2, zq3, zq4, zq5, zq6, zq7, zq8, zq9, zq10, zq11, zq12] <;> omega) | rfl))))
          conv => whnf
          refine ⟨44, A, h1, ?_⟩
          have hr0 : (rw2 rest A (A ++ B) 0).length = rest.length := rfl
          repeat ((conv => whnf); (first | refine Cnd.yes ?_ | refine Cnd.no ?_ | refine And.intro rfl ?_ | refine And.intro (by omega) ?_ | (refine And.intro ?_ ?_; focus (simp only [IntKind.wrap_i64, IntKind.wrap_u64, IntKind.wrap_u32]; omega)) | (refine And.intro ?_ ?_; focus (simp only [zl1, zl2, zl3, zl4, zl5, zl6, zl7, zl8, zl9] <;> omega)) | refine Alt.std ?_ | (refine Cnd.tt ?_ ?_; focus (first | (apply decide_eq_true; omega) | (simp only [zq1, zq2, zq3, zq4, zq5, zq6, zq7, zq8, zq9, zq10, zq11, zq12] <;> omega) | rfl)) | (refine Cnd.ff ?_ ?_; focus (first | (apply decide_eq_false; omega) | (simp only [zq1, zq2, zq3, zq4, zq5, zq6, zq7, zq8, zq9, zq10, zq11, zq12] <;> omega) | rfl))))
          conv => whnf
          (refine ⟨(fun s : Nat => 2 - s) (1), [0, 2], tmk 36 0 ((fun s : Nat => [(0, .slc 0 1 0 2), (6, .slc 1 12 0 (sz2 A.length B.length s)), (25, .slc 0 1 0 2), (26, .v (.int .i64 (2 : Nat))), (27, .v (.int .i64 s))]) (1)), (fun s : Nat => [Ent.row o e [.sl] [[y1], [y2]], .row true 44 fck (rw2 rest A (A ++ B) s)]) (1), ?_, ?_⟩; focus (first | (simp only []; omega) | omega))
          repeat ((conv => whnf); (first | refine Cnd.yes ?_ | refine Cnd.no ?_ | refine And.intro rfl ?_ | refine And.intro (by omega) ?_ | (refine And.intro ?_ ?_; focus (simp only [IntKind.wrap_i64, IntKind.wrap_u64, IntKind.wrap_u32]; omega)) | (refine And.intro ?_ ?_; focus (simp only [zl1, zl2, zl3, zl4, zl5, zl6, zl7, zl8, zl9] <;> omega)) | refine Alt.std ?_))
          conv => whnf
          exact ⟨1, (by omega), rfl, rfl, (tmkK_eq _ _ _ _).mpr rfl, rfl⟩
        · repeat ((conv => whnf); (first | refine Cnd.yes ?_ | refine Cnd.no ?_ | refine And.intro rfl ?_ | refine And.intro (by omega) ?_ | (refine And.intro ?_ ?_; focus (simp only [IntKind.wrap_i64, IntKind.wrap_u64, IntKind.wrap_u32]; omega)) | (refine And.intro ?_ ?_; focus (simp only [zl1, zl2, zl3, zl4, zl5, zl6, zl7, zl8, zl9] <;> omega)) | refine Alt.std ?_ | (refine Cnd.tt ?_ ?_; focus (first | (apply decide_eq_true; omega) | (simp only [zq1, zq2, zq3, zq4, zq5, zq6, zq7, zq8, zq9, zq10, zq11, zq12] <;> omega) | rfl)) | (refine Cnd.ff ?_ ?_; focus (first | (apply decide_eq_false; omega) | (simp only [zq1, zq2, zq3, zq4, zq5, zq6, zq7, zq8, zq9, zq10, zq11, zq12] <;> omega) | rfl))))
          conv => whnf
          refine ⟨44, B, h2, ?_⟩
          have hr1 : (rw2 rest A (A ++ B) 1).length = A.length := rfl
          repeat ((conv => whnf); (first | refine Cnd.yes ?_ | refine Cnd.no ?_ | refine And.intro rfl ?_ | refine And.intro (by omega) ?_ | (refine And.intro ?_ ?_; focus (simp only [IntKind.wrap_i64, IntKind.wrap_u64, IntKind.wrap_u32]; omega)) | (refine And.intro ?_ ?_; focus (simp only [zl1, zl2, zl3, zl4, zl5, zl6, zl7, zl8, zl9] <;> omega)) | refine Alt.std ?_ | (refine Cnd.tt ?_ ?_; focus (first | (apply decide_eq_true; omega) | (simp only [zq1, zq2, zq3, zq4, zq5, zq6, zq7, zq8, zq9, zq10, zq11, zq12] <;> omega) | rfl)) | (refine Cnd.ff ?_ ?_; focus (first | (apply decide_eq_false; omega) | (simp only [zq1, zq2, zq3, zq4, zq5, zq6, zq7, zq8, zq9, zq10, zq11, zq12] <;> omega) | rfl))))
          conv => whnf
          (refine ⟨(fun s : Nat => 2 - s) (2), [0, 2], tmk 36 0 ((fun s : Nat => [(0, .slc 0 1 0 2), (6, .slc 1 12 0 (sz2 A.length B.length s)), (25, .slc 0 1 0 2), (26, .v (.int .i64 (2 : Nat))), (27, .v (.int .i64 s))]) (2)), (fun s : Nat => [Ent.row o e [.sl] [[y1], [y2]], .row true 44 fck (rw2 rest A (A ++ B) s)]) (2), ?_, ?_⟩; focus (first | (simp only []; omega) | omega))
          repeat ((conv => whnf); (first | refine Cnd.yes ?_ | refine Cnd.no ?_ | refine And.intro rfl ?_ | refine And.intro (by omega) ?_ | (refine And.intro ?_ ?_; focus (simp only [IntKind.wrap_i64, IntKind.wrap_u64, IntKind.wrap_u32]; omega)) | (refine And.intro ?_ ?_; focus (simp only [zl1, zl2, zl3, zl4, zl5, zl6, zl7, zl8, zl9] <;> omega)) | refine Alt.std ?_))
          conv => whnf
          refine ⟨by show List.take A.length (List.drop 0 A) ++ B = A ++ B; rw [List.drop_zero, List.take_length], ?_⟩
          repeat ((conv => whnf); (first | refine Cnd.yes ?_ | refine Cnd.no ?_ | refine And.intro rfl ?_ | refine And.intro (by omega) ?_ | (refine And.intro ?_ ?_; focus (simp only [IntKind.wrap_i64, IntKind.wrap_u64, IntKind.wrap_u32]; omega)) | (refine And.intro ?_ ?_; focus (simp only [zl1, zl2, zl3, zl4, zl5, zl6, zl7, zl8, zl9] <;> omega)) | refine Alt.std ?_))
          conv => whnf
          exact ⟨2, (by omega), rfl, rfl, (tmkK_eq _ _ _ _).mpr rfl, rfl⟩
        · repeat ((conv => whnf); (first | refine Cnd.yes ?_ | refine Cnd.no ?_ | refine And.intro rfl ?_ | refine And.intro (by omega) ?_ | (refine And.intro ?_ ?_; focus (simp only [IntKind.wrap_i64, IntKind.wrap_u64, IntKind.wrap_u32]; omega)) | (refine And.intro ?_ ?_; focus (simp only [zl1, zl2, zl3, zl4, zl5, zl6, zl7, zl8, zl9] <;> omega)) | refine Alt.std ?_ | (refine Cnd.tt ?_ ?_; focus (first | (apply decide_eq_true; omega) | (simp only [zq1, zq2, zq3, zq4, zq5, zq6, zq7, zq8, zq9, zq10, zq11, zq12] <;> omega) | rfl)) | (refine Cnd.ff ?_ ?_; focus (first | (apply decide_eq_false; omega) | (simp only [zq1, zq2, zq3, zq4, zq5, zq6, zq7, zq8, zq9, zq10, zq11, zq12] <;> omega) | rfl))))
          conv => whnf
          refine ⟨[0, 1], .slc 1 12 0 (A.length + B.length), [.row o e [.sl] [[y1], [y2]], .row true 44 fck (A ++ B)], ?_⟩
          repeat ((conv => whnf); (first | refine Cnd.yes ?_ | refine Cnd.no ?_ | refine And.intro rfl ?_ | refine And.intro (by omega) ?_ | (refine And.intro ?_ ?_; focus (simp only [IntKind.wrap_i64, IntKind.wrap_u64, IntKind.wrap_u32]; omega)) | (refine And.intro ?_ ?_; focus (simp only [zl1, zl2, zl3, zl4, zl5, zl6, zl7, zl8, zl9] <;> omega)) | refine Alt.std ?_))
          conv => whnf
          exact hK
def concatT : Vc.Trans := fun args hp M K => ∃ (o : Bool) (e : TypeId) (y1 y2 : Value) (A B : List (List Value)), args = [.slc 0 1 0 2] ∧ hp = [.row o e [.sl] [[y1], [y2]]] ∧ Vc.RowsIn M 44 fck y1 A ∧ Vc.RowsIn M 44 fck y2 B ∧ A.length + B.length ≤ 3000 ∧
  K (.slc 1 12 0 (A.length + B.length)) [.row o e [.sl] [[y1], [y2]], .row true 44 fck (A ++ B)] M
theorem concat_ok : TOK Tryd.prog 34 concatT := by
  refine TOK.weaken (TOK.out (runF_eq GH3_ok mixed at34.1 at34.2 pf34_eq)) fun args hp M K h => ?_
  obtain ⟨o, e, y1, y2, A, B, rfl, rfl, h1, h2, h3, h4⟩ := h
  exact concat_run M K o e y1 y2 A B h1 h2 h3 h4
noncomputable def specsH4 : Nat → Option Vc.Trans := tget [(21, frameT headS), (33, frameT natS), (34, frameM concatT)]
noncomputable def GH4 : Nat → Option Vc.Trans := tabG specsH4 (tget tab) 5
theorem GH4_ok : GOK Tryd.prog GH4 := tabG_ok (GOK.cons (frame_ok head_ok) (GOK.cons (frame_ok nat_ok) (GOK.cons (frameM_ok concat_ok) .nil))) tab_ok 5
theorem takeno_run (M : HL) (K : SV → List Ent → HL → Prop) (h r nx id : Int) (L : List Fl) (hl : L.length ≤ 3000) (hno : ∀ y ∈ L, y.1 ≠ id) (hK : K (.tup [msgV zmsg, .v (.bool false)]) (netHp true h r nx L) M) :
    runF GH4 pf17 [.ptr 0 0 0 0, .v (.int .i64 id)] (netHp true h r nx L) M fun v hp2 M2 => ∃ m v' hp', Wk (llen (netHp true h r nx L)) m [v] hp2 [v'] hp' (K v' hp' M2) := by
  repeat ((conv => whnf); (first | refine Cnd.yes ?_ | refine Cnd.no ?_ | refine And.intro rfl ?_ | refine And.intro (by omega) ?_ | (refine And.intro ?_ ?_; focus (simp only [IntKind.wrap_i64, IntKind.wrap_u64, IntKind.wrap_u32]; omega)) | (refine And.intro ?_ ?_; focus (simp only [zl1, zl2, zl3, zl4, zl5, zl6, zl7, zl8, zl9] <;> omega)) | refine Alt.std ?_ | (refine Cnd.tt ?_ ?_; focus (first | (apply decide_eq_true; omega) | (simp only [zq1, zq2, zq3, zq4, zq5, zq6, zq7, zq8, zq9, zq10, zq11, zq12] <;> omega) | rfl)) | (refine Cnd.ff ?_ ?_; focus (first | (apply decide_eq_false; omega) | (simp only [zq1, zq2, zq3, zq4, zq5, zq6, zq7, zq8, zq9, zq10, zq11, zq12] <;> omega) | rfl))))
  conv => whnf
  refine .inl ⟨h, r, nx, id, L, rfl, rfl, hl, hno, ?_⟩
  repeat ((conv => whnf); (first | refine Cnd.yes ?_ | refine Cnd.no ?_ | refine And.intro rfl ?_ | refine And.intro (by omega) ?_ | (refine And.intro ?_ ?_; focus (simp only [IntKind.wrap_i64, IntKind.wrap_u64, IntKind.wrap_u32]; omega)) | (refine And.intro ?_ ?_; focus (simp only [zl1, zl2, zl3, zl4, zl5, zl6, zl7, zl8, zl9] <;> omega)) | refine Alt.std ?_ | (refine Cnd.tt ?_ ?_; focus (first | (apply decide_eq_true; omega) | (simp only [zq1, zq2, zq3, zq4, zq5, zq6, zq7, zq8, zq9, zq10, zq11, zq12] <;> omega) | rfl)) | (refine Cnd.ff ?_ ?_; focus (first | (apply decide_eq_false; omega) | (simp only [zq1, zq2, zq3, zq4, zq5, zq6, zq7, zq8, zq9, zq10, zq11, zq12] <;> omega) | rfl))))
  conv => whnf
  refine ⟨[0, 1], .tup [msgV zmsg, .v (.bool false)], netHp true h r nx L, ?_⟩
  repeat ((conv => whnf); (first | refine Cnd.yes ?_ | refine Cnd.no ?_ | refine And.intro rfl ?_ | refine And.intro (by omega) ?_ | (refine And.intro ?_ ?_; focus (simp only [IntKind.wrap_i64, IntKind.wrap_u64, IntKind.wrap_u32]; omega)) | (refine And.intro ?_ ?_; focus (simp only [zl1, zl2, zl3, zl4, zl5, zl6, zl7, zl8, zl9] <;> omega)) | refine Alt.std ?_))
  conv => whnf
  exact hK
theorem take_run (M : HL) (K : SV → List Ent → HL → Prop) (h r nx id : Int) (P : List Fl) (m : Msg) (Q : List Fl) (hl : (P ++ (id, m) :: Q).length ≤ 3000) (hP : ∀ y ∈ P, y.1 ≠ id)
    (hK : ∀ M', FLe M M' → K (.tup [msgV m, .v (.bool true)]) [.cells 69 [.v (.int .i64 h), .v (.int .i64 r), .v (.int .i64 nx), .slc 2 12 0 (P ++ Q).length], .gone, .row true 44 fck ((P ++ Q).map frow)] M') :
    runF GH4 pf17 [.ptr 0 0 0 0, .v (.int .i64 id)] (netHp true h r nx (P ++ (id, m) :: Q)) M fun v hp2 M2 => ∃ m' v' hp', Wk (llen (netHp true h r nx (P ++ (id, m) :: Q))) m' [v] hp2 [v'] hp' (K v' hp' M2) := by
  have hll : (P ++ (id, m) :: Q).length = P.length + 1 + Q.length := by simp; omega
  have e1 : IntKind.i64.wrap ((P.length : Int) + 1) = ((P.length + 1 : Nat) : Int) := by rw [IntKind.wrap_i64]; omega
  repeat ((conv => whnf); (first | refine Cnd.yes ?_ | refine Cnd.no ?_ | refine And.intro rfl ?_ | refine And.intro (by omega) ?_ | (refine And.intro ?_ ?_; focus (simp only [IntKind.wrap_i64, IntKind.wrap_u64, IntKind.wrap_u32]; omega)) | (refine And.intro ?_ ?_; focus (simp only [zl1, zl2, zl3, zl4, zl5, zl6, zl7, zl8, zl9] <;> omega)) | refine Alt.std ?_ | (refine Cnd.tt ?_ ?_; focus (first | (apply decide_eq_true; omega) | (simp only [zq1, zq2, zq3, zq4, zq5, zq6, zq7, zq8, zq9, zq10, zq11, zq12] <;> omega) | rfl)) | (refine Cnd.ff ?_ ?_; focus (first | (apply decide_eq_false; omega) | (simp only [zq1, zq2, zq3, zq4, zq5, zq6, zq7, zq8, zq9, zq10, zq11, zq12] <;> omega) | rfl))))
  conv => whnf
  refine .inr ⟨h, r, nx, id, P, m, Q, rfl, rfl, hl, hP, ?_⟩
  repeat ((conv => whnf); (first | refine Cnd.yes ?_ | refine Cnd.no ?_ | refine And.intro rfl ?_ | refine And.intro (by omega) ?_ | (refine And.intro ?_ ?_; focus (simp only [IntKind.wrap_i64, IntKind.wrap_u64, IntKind.wrap_u32]; omega)) | (refine And.intro ?_ ?_; focus (simp only [zl1, zl2, zl3, zl4, zl5, zl6, zl7, zl8, zl9] <;> omega)) | refine Alt.std ?_ | (refine Cnd.tt ?_ ?_; focus (first | (apply decide_eq_true; omega) | (simp only [zq1, zq2, zq3, zq4, zq5, zq6, zq7, zq8, zq9, zq10, zq11, zq12] <;> omega) | rfl)) | (refine Cnd.ff ?_ ?_; focus (first | (apply decide_eq_false; omega) | (simp only [zq1, zq2, zq3, zq4, zq5, zq6, zq7, zq8, zq9, zq10, zq11, zq12] <;> omega) | rfl))))
  conv => whnf
  refine ⟨true, h, r, nx, id, P ++ (id, m) :: Q, rfl, rfl, hl, fun k hk => ?_⟩
  obtain rfl : k = P.length := hk.at hP
  repeat ((conv => whnf); (first | refine Cnd.yes ?_ | refine Cnd.no ?_ | refine And.intro rfl ?_ | refine And.intro (by omega) ?_ | (refine And.intro ?_ ?_; focus (simp only [IntKind.wrap_i64, IntKind.wrap_u64, IntKind.wrap_u32]; omega)) | (refine And.intro ?_ ?_; focus (simp only [zl1, zl2, zl3, zl4, zl5, zl6, zl7, zl8, zl9] <;> omega)) | refine Alt.std ?_ | (refine Cnd.tt ?_ ?_; focus (first | (apply decide_eq_true; omega) | (simp only [zq1, zq2, zq3, zq4, zq5, zq6, zq7, zq8, zq9, zq10, zq11, zq12] <;> omega) | rfl)) | (refine Cnd.ff ?_ ?_; focus (first | (apply decide_eq_false; omega) | (simp only [zq1, zq2, zq3, zq4, zq5, zq6, zq7, zq8, zq9, zq10, zq11, zq12] <;> omega) | rfl))))
  conv => whnf
  intro y1 M1 hM1 hR1
  repeat ((conv => whnf); (first | refine Cnd.yes ?_ | refine Cnd.no ?_ | refine And.intro rfl ?_ | refine And.intro (by omega) ?_ | (refine And.intro ?_ ?_; focus (simp only [IntKind.wrap_i64, IntKind.wrap_u64, IntKind.wrap_u32]; omega)) | (refine And.intro ?_ ?_; focus (simp only [zl1, zl2, zl3, zl4, zl5, zl6, zl7, zl8, zl9] <;> omega)) | refine Alt.std ?_ | (refine Cnd.tt ?_ ?_; focus (first | (apply decide_eq_true; omega) | (simp only [zq1, zq2, zq3, zq4, zq5, zq6, zq7, zq8, zq9, zq10, zq11, zq12] <;> omega) | rfl)) | (refine Cnd.ff ?_ ?_; focus (first | (apply decide_eq_false; omega) | (simp only [zq1, zq2, zq3, zq4, zq5, zq6, zq7, zq8, zq9, zq10, zq11, zq12] <;> omega) | rfl))))
  conv => whnf
  rw [e1]
  repeat ((conv => whnf); (first | refine Cnd.yes ?_ | refine Cnd.no ?_ | refine And.intro rfl ?_ | refine And.intro (by omega) ?_ | (refine And.intro ?_ ?_; focus (simp only [IntKind.wrap_i64, IntKind.wrap_u64, IntKind.wrap_u32]; omega)) | (refine And.intro ?_ ?_; focus (simp only [zl1, zl2, zl3, zl4, zl5, zl6, zl7, zl8, zl9] <;> omega)) | refine Alt.std ?_ | (refine Cnd.tt ?_ ?_; focus (first | (apply decide_eq_true; omega) | (simp only [zq1, zq2, zq3, zq4, zq5, zq6, zq7, zq8, zq9, zq10, zq11, zq12] <;> omega) | rfl)) | (refine Cnd.ff ?_ ?_; focus (first | (apply decide_eq_false; omega) | (simp only [zq1, zq2, zq3, zq4, zq5, zq6, zq7, zq8, zq9, zq10, zq11, zq12] <;> omega) | rfl))))
  conv => whnf
  intro y2 hR2
  have t1 : List.take ((P.length : Int).toNat - ((0 : Nat) : Int).toNat) (List.drop (0 + ((0 : Nat) : Int).toNat) ((P ++ (id, m) :: Q).map frow)) = P.map frow := by
    simp [List.take_append]
  have t2 : List.take ((((P ++ (id, m) :: Q).length : Nat) : Int).toNat - ((P.length + 1 : Nat) : Int).toNat) (List.drop (0 + ((P.length + 1 : Nat) : Int).toNat) ((P ++ (id, m) :: Q).map frow)) = Q.map frow := by
    rw [Int.toNat_natCast, Int.toNat_natCast, hll, Nat.zero_add, show P.length + 1 + Q.length - (P.length + 1) = Q.length by omega, show (P ++ (id, m) :: Q).map frow = (P ++ [(id, m)]).map frow ++ Q.map frow by simp, List.drop_left' (by simp)]
    exact List.take_of_length_le (by simp)
  rw [t1] at hR1
  rw [t2] at hR2
  repeat ((conv => whnf); (first | refine Cnd.yes ?_ | refine Cnd.no ?_ | refine And.intro rfl ?_ | refine And.intro (by omega) ?_ | (refine And.intro ?_ ?_; focus (simp only [IntKind.wrap_i64, IntKind.wrap_u64, IntKind.wrap_u32]; omega)) | (refine And.intro ?_ ?_; focus (simp only [zl1, zl2, zl3, zl4, zl5, zl6, zl7, zl8, zl9] <;> omega)) | refine Alt.std ?_ | (refine Cnd.tt ?_ ?_; focus (first | (apply decide_eq_true; omega) | (simp only [zq1, zq2, zq3, zq4, zq5, zq6, zq7, zq8, zq9, zq10, zq11, zq12] <;> omega) | rfl)) | (refine Cnd.ff ?_ ?_; focus (first | (apply decide_eq_false; omega) | (simp only [zq1, zq2, zq3, zq4, zq5, zq6, zq7, zq8, zq9, zq10, zq11, zq12] <;> omega) | rfl))))
  conv => whnf
  refine ⟨_, _, y1, y2, P.map frow, Q.map frow, rfl, rfl, hR1, hR2, by rw [List.length_map, List.length_map]; omega, ?_⟩
  rw [List.length_map, List.length_map]
  repeat ((conv => whnf); (first | refine Cnd.yes ?_ | refine Cnd.no ?_ | refine And.intro rfl ?_ | refine And.intro (by omega) ?_ | (refine And.intro ?_ ?_; focus (simp only [IntKind.wrap_i64, IntKind.wrap_u64, IntKind.wrap_u32]; omega)) | (refine And.intro ?_ ?_; focus (simp only [zl1, zl2, zl3, zl4, zl5, zl6, zl7, zl8, zl9] <;> omega)) | refine Alt.std ?_ | (refine Cnd.tt ?_ ?_; focus (first | (apply decide_eq_true; omega) | (simp only [zq1, zq2, zq3, zq4, zq5, zq6, zq7, zq8, zq9, zq10, zq11, zq12] <;> omega) | rfl)) | (refine Cnd.ff ?_ ?_; focus (first | (apply decide_eq_false; omega) | (simp only [zq1, zq2, zq3, zq4, zq5, zq6, zq7, zq8, zq9, zq10, zq11, zq12] <;> omega) | rfl))))
  conv => whnf
  refine ⟨[0, 1, 5], .tup [msgV m, .v (.bool true)], [.cells 69 [.v (.int .i64 h), .v (.int .i64 r), .v (.int .i64 nx), .slc 2 12 0 (P ++ Q).length], .gone, .row true 44 fck ((P ++ Q).map frow)], ?_⟩
  repeat ((conv => whnf); (first | refine Cnd.yes ?_ | refine Cnd.no ?_ | refine And.intro rfl ?_ | refine And.intro (by omega) ?_ | (refine And.intro ?_ ?_; focus (simp only [IntKind.wrap_i64, IntKind.wrap_u64, IntKind.wrap_u32]; omega)) | (refine And.intro ?_ ?_; focus (simp only [zl1, zl2, zl3, zl4, zl5, zl6, zl7, zl8, zl9] <;> omega)) | refine Alt.std ?_))
  conv => whnf
  refine ⟨by rw [List.map_append], ?_⟩
  repeat ((conv => whnf); (first | refine Cnd.yes ?_ | refine Cnd.no ?_ | refine And.intro rfl ?_ | refine And.intro (by omega) ?_ | (refine And.intro ?_ ?_; focus (simp only [IntKind.wrap_i64, IntKind.wrap_u64, IntKind.wrap_u32]; omega)) | (refine And.intro ?_ ?_; focus (simp only [zl1, zl2, zl3, zl4, zl5, zl6, zl7, zl8, zl9] <;> omega)) | refine Alt.std ?_))
  conv => whnf
  exact hK M1 hM1
def takeT : Vc.Trans := fun args hp M K => (∃ (h r nx id : Int) (L : List Fl), args = [.ptr 0 0 0 0, .v (.int .i64 id)] ∧ hp = netHp true h r nx L ∧ L.length ≤ 3000 ∧ (∀ y ∈ L, y.1 ≠ id) ∧ K (.tup [msgV zmsg, .v (.bool false)]) (netHp true h r nx L) M) ∨
  ∃ (h r nx id : Int) (P : List Fl) (m : Msg) (Q : List Fl), args = [.ptr 0 0 0 0, .v (.int .i64 id)] ∧ hp = netHp true h r nx (P ++ (id, m) :: Q) ∧ (P ++ (id, m) :: Q).length ≤ 3000 ∧ (∀ y ∈ P, y.1 ≠ id) ∧
    ∀ M', FLe M M' → K (.tup [msgV m, .v (.bool true)]) [.cells 69 [.v (.int .i64 h), .v (.int .i64 r), .v (.int .i64 nx), .slc 2 12 0 (P ++ Q).length], .gone, .row true 44 fck ((P ++ Q).map frow)] M'
theorem take_ok : TOK Tryd.prog 17 takeT := by
  refine TOK.weaken (TOK.out (runF_eq GH4_ok mixed at17.1 at17.2 pf17_eq)) fun args hp M K h => ?_
  rcases h with ⟨h', r, nx, id, L, rfl, rfl, h1, h2, h3⟩ | ⟨h', r, nx, id, P, m, Q, rfl, rfl, h1, h2, h3⟩
  · exact takeno_run M K h' r nx id L h1 h2 h3
  · exact take_run M K h' r nx id P m Q h1 h2 h3
end Go.Proofs.YthomcgclkbmnkaaDoor
