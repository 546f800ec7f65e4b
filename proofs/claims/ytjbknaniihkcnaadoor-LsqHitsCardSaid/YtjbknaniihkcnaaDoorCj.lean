/-
  The queue: Hit; SameInts of the same list; walked; their contracts.
-/
import Derived.Test.YtjbknaniihkcnaaDoorCi
namespace Go.Proofs.YtjbknaniihkcnaaDoor
open Go Go.Vc
set_option maxRecDepth 100000
set_option linter.unusedSimpArgs false
set_option linter.unusedVariables false
set_option maxHeartbeats 4000000
def hitQ (line : Int) (x : Q7) : Bool := !x.st && x.kn && decide (x.ad / 16 = line)
def hitL (line : Int) (L : List Q7) : List Int := (L.filter (hitQ line)).map (·.id)
theorem hitL_next {L : List Q7} (line : Int) {s : Nat} (h : s < L.length) : hitL line (L.take (s + 1)) = hitL line (L.take s) ++ (if hitQ line (L.getD s default) then [(L.getD s default).id] else []) := by
  have e : L.take (s + 1) = L.take s ++ [L.getD s default] := by
    rw [← List.take_append_getElem h]
    simp [List.getD, h]
  rw [e, hitL, List.filter_append, List.map_append]
  cases hq : hitQ line (L.getD s default) with
  | true => rw [List.filter_cons, hq]; rfl
  | false => rw [List.filter_cons, hq]; simp [hitL]
theorem hitL_len (line : Int) (L : List Q7) : (hitL line L).length ≤ L.length := by
  rw [hitL, List.length_map]
  exact List.length_filter_le _ _
theorem hit_run (M : HL) (K : SV → List Ent → HL → Prop) (n line : Int) (L : List Q7) (post : List (List Value)) (hl : L.length ≤ 1000) (hL : ∀ y ∈ L, 0 ≤ y.ad ∧ y.ad < 4294967296)
    (hK : K (.slc 2 1 0 (hitL line L).length) (qHp true n L post ++ [.row true 3 [.int .i64] ((hitL line L).map irow)]) M) :
    runF G0 pf18 [.ptr 0 0 0 0, .v (.int .i64 line)] (qHp true n L post) M fun v hp2 M2 => ∃ m v' hp', Wk (llen (qHp true n L post)) m [v] hp2 [v'] hp' (K v' hp' M2) := by
  repeat ((conv => whnf); (first | refine Cnd.yes ?_ | refine Cnd.no ?_ | refine And.intro rfl ?_ | refine And.intro (by omega) ?_ | (refine And.intro ?_ ?_; focus (simp only [IntKind.wrap_i64, IntKind.wrap_u64, IntKind.wrap_u32]; omega)) | (refine And.intro ?_ ?_; focus (simp only [zl1, zl2, zl3, zl4, zl5, zl6, zl7, zl8, zl9] <;> omega)) | (refine Cnd.tt ?_ ?_; focus (first | (apply decide_eq_true; omega) | (simp only [zq1, zq2, zq3, zq4, zq5, zq6, zq7, zq8, zq9, zq10, zq11, zq12] <;> omega) | rfl)) | (refine Cnd.ff ?_ ?_; focus (first | (apply decide_eq_false; omega) | (simp only [zq1, zq2, zq3, zq4, zq5, zq6, zq7, zq8, zq9, zq10, zq11, zq12] <;> omega) | rfl))))
  conv => whnf
  refine ⟨InvS 38 (fun s : Nat × List Int => L.length - s.1) (fun s : Nat × List Int => s.1 ≤ L.length ∧ s.2 = hitL line (L.take s.1)) (fun s : Nat × List Int => [(1, .v (.int .i64 line)), (5, .slc 2 1 0 s.2.length), (11, .slc 1 7 0 L.length), (12, .v (.int .i64 L.length)), (13, .v (.int .i64 s.1))]) (fun s : Nat × List Int => qHp true n L post ++ [.row true 3 [.int .i64] (s.2.map irow)]) M, ⟨(fun s : Nat × List Int => L.length - s.1) (0, []), [0, 1, 99], tmk 38 0 ((fun s : Nat × List Int => [(1, .v (.int .i64 line)), (5, .slc 2 1 0 s.2.length), (11, .slc 1 7 0 L.length), (12, .v (.int .i64 L.length)), (13, .v (.int .i64 s.1))]) (0, [])), (fun s : Nat × List Int => qHp true n L post ++ [.row true 3 [.int .i64] (s.2.map irow)]) (0, []), ?_⟩, ?_⟩
  · repeat ((conv => whnf); (first | refine Cnd.yes ?_ | refine Cnd.no ?_ | refine And.intro rfl ?_ | refine And.intro (by omega) ?_ | (refine And.intro ?_ ?_; focus (simp only [IntKind.wrap_i64, IntKind.wrap_u64, IntKind.wrap_u32]; omega)) | (refine And.intro ?_ ?_; focus (simp only [zl1, zl2, zl3, zl4, zl5, zl6, zl7, zl8, zl9] <;> omega))))
    conv => whnf
    exact ⟨(0, []), ⟨Nat.zero_le _, rfl⟩, rfl, rfl, (tmkK_eq _ _ _ _).mpr rfl, rfl⟩
  · rintro cnt tm hp M1 ⟨⟨i,W⟩, hC_, rfl, rfl, htm, hhp_⟩
    replace hC_ : i ≤ L.length ∧ W = hitL line (L.take i) := hC_
    obtain ⟨hi, hW⟩ := hC_
    replace htm : tmkK 38 0 [(1, .v (.int .i64 line)), (5, .slc 2 1 0 W.length), (11, .slc 1 7 0 L.length), (12, .v (.int .i64 L.length)), (13, .v (.int .i64 i))] (fun l => tm = l) := htm
    conv at htm => whnf
    subst htm
    replace hhp_ : hp = qHp true n L post ++ [.row true 3 [.int .i64] (W.map irow)] := hhp_
    subst hhp_
    repeat ((conv => whnf); (first | refine Cnd.yes ?_ | refine Cnd.no ?_ | refine And.intro rfl ?_ | refine And.intro (by omega) ?_ | (refine And.intro ?_ ?_; focus (simp only [IntKind.wrap_i64, IntKind.wrap_u64, IntKind.wrap_u32]; omega)) | (refine And.intro ?_ ?_; focus (simp only [zl1, zl2, zl3, zl4, zl5, zl6, zl7, zl8, zl9] <;> omega)) | (refine Cnd.tt ?_ ?_; focus (first | (apply decide_eq_true; omega) | (simp only [zq1, zq2, zq3, zq4, zq5, zq6, zq7, zq8, zq9, zq10, zq11, zq12] <;> omega) | rfl)) | (refine Cnd.ff ?_ ?_; focus (first | (apply decide_eq_false; omega) | (simp only [zq1, zq2, zq3, zq4, zq5, zq6, zq7, zq8, zq9, zq10, zq11, zq12] <;> omega) | rfl))))
    conv => whnf
    refine Cnd.mk (fun hlt => ?_) fun hge => ?_
    · have hin : i < L.length := by have := of_decide_eq_true hlt; omega
      have hn := hitL_next line hin
      have hln := hitL_len line (L.take i)
      have hll : i < (L.map qrow ++ post).length := by simp; omega
      have hy := hL (L.getD i default) (by simp [List.getD, hin])
      have c : ∀ k, cellAt (L.map qrow ++ post) (0 + (i : Int).toNat) k = (qrow (L.getD i default)).getD k undef := fun k => by
        rw [Nat.zero_add, Int.toNat_natCast]
        exact cellL L post hin k
      rw [List.length_take] at hln
      generalize L.getD i default = y at hn hy c
      obtain ⟨yid, yst, ypl, ykn, yad, ysz, yv⟩ := y
      simp only at hy
      rw [← hW] at hn hln
      have e1 : toB (cellAt (L.map qrow ++ post) (0 + (i : Int).toNat) (0 + 1)) = yst := by rw [c]; rfl
      have e3 : toB (cellAt (L.map qrow ++ post) (0 + (i : Int).toNat) (0 + 1 + 1 + 1)) = ykn := by rw [c]; rfl
      have e4 : toI (cellAt (L.map qrow ++ post) (0 + (i : Int).toNat) (0 + 1 + 1 + 1 + 1)) = yad := by rw [c]; rfl
      have e0 : toI (cellAt (L.map qrow ++ post) (0 + (i : Int).toNat) 0) = yid := by rw [c]; rfl
      have eq : IntKind.i64.wrap (IntKind.u32.wrap (yad.tdiv 16)) = yad / 16 := by rw [Int.tdiv_eq_ediv_of_nonneg hy.1, IntKind.wrap_i64, IntKind.wrap_u32]; omega
      repeat ((conv => whnf); (first | refine Cnd.yes ?_ | refine Cnd.no ?_ | refine And.intro rfl ?_ | refine And.intro (by omega) ?_ | (refine And.intro ?_ ?_; focus (simp only [IntKind.wrap_i64, IntKind.wrap_u64, IntKind.wrap_u32]; omega)) | (refine And.intro ?_ ?_; focus (simp only [zl1, zl2, zl3, zl4, zl5, zl6, zl7, zl8, zl9] <;> omega)) | (refine Cnd.tt ?_ ?_; focus (first | (apply decide_eq_true; omega) | (simp only [zq1, zq2, zq3, zq4, zq5, zq6, zq7, zq8, zq9, zq10, zq11, zq12] <;> omega) | rfl)) | (refine Cnd.ff ?_ ?_; focus (first | (apply decide_eq_false; omega) | (simp only [zq1, zq2, zq3, zq4, zq5, zq6, zq7, zq8, zq9, zq10, zq11, zq12] <;> omega) | rfl))))
      conv => whnf
      rw [e1, e3, e4, e0]
      cases yst with
      | true =>
        rw [if_neg (by simp [hitQ]), List.append_nil] at hn
        repeat ((conv => whnf); (first | refine Cnd.yes ?_ | refine Cnd.no ?_ | refine And.intro rfl ?_ | refine And.intro (by omega) ?_ | (refine And.intro ?_ ?_; focus (simp only [IntKind.wrap_i64, IntKind.wrap_u64, IntKind.wrap_u32]; omega)) | (refine And.intro ?_ ?_; focus (simp only [zl1, zl2, zl3, zl4, zl5, zl6, zl7, zl8, zl9] <;> omega)) | (refine Cnd.tt ?_ ?_; focus (first | (apply decide_eq_true; omega) | (simp only [zq1, zq2, zq3, zq4, zq5, zq6, zq7, zq8, zq9, zq10, zq11, zq12] <;> omega) | rfl)) | (refine Cnd.ff ?_ ?_; focus (first | (apply decide_eq_false; omega) | (simp only [zq1, zq2, zq3, zq4, zq5, zq6, zq7, zq8, zq9, zq10, zq11, zq12] <;> omega) | rfl))))
        conv => whnf
        (refine ⟨(fun s : Nat × List Int => L.length - s.1) ((i + 1, W)), [0, 1, 2], tmk 38 0 ((fun s : Nat × List Int => [(1, .v (.int .i64 line)), (5, .slc 2 1 0 s.2.length), (11, .slc 1 7 0 L.length), (12, .v (.int .i64 L.length)), (13, .v (.int .i64 s.1))]) ((i + 1, W))), (fun s : Nat × List Int => qHp true n L post ++ [.row true 3 [.int .i64] (s.2.map irow)]) ((i + 1, W)), ?_, ?_⟩; focus (first | (simp only []; omega) | omega))
        repeat ((conv => whnf); (first | refine Cnd.yes ?_ | refine Cnd.no ?_ | refine And.intro rfl ?_ | refine And.intro (by omega) ?_ | (refine And.intro ?_ ?_; focus (simp only [IntKind.wrap_i64, IntKind.wrap_u64, IntKind.wrap_u32]; omega)) | (refine And.intro ?_ ?_; focus (simp only [zl1, zl2, zl3, zl4, zl5, zl6, zl7, zl8, zl9] <;> omega))))
        conv => whnf
        exact ⟨(i + 1, W), ⟨hin, hn.symm⟩, rfl, rfl, (tmkK_eq _ _ _ _).mpr rfl, rfl⟩
      | false =>
        cases ykn with
        | false =>
          rw [if_neg (by simp [hitQ]), List.append_nil] at hn
          repeat ((conv => whnf); (first | refine Cnd.yes ?_ | refine Cnd.no ?_ | refine And.intro rfl ?_ | refine And.intro (by omega) ?_ | (refine And.intro ?_ ?_; focus (simp only [IntKind.wrap_i64, IntKind.wrap_u64, IntKind.wrap_u32]; omega)) | (refine And.intro ?_ ?_; focus (simp only [zl1, zl2, zl3, zl4, zl5, zl6, zl7, zl8, zl9] <;> omega)) | (refine Cnd.tt ?_ ?_; focus (first | (apply decide_eq_true; omega) | (simp only [zq1, zq2, zq3, zq4, zq5, zq6, zq7, zq8, zq9, zq10, zq11, zq12] <;> omega) | rfl)) | (refine Cnd.ff ?_ ?_; focus (first | (apply decide_eq_false; omega) | (simp only [zq1, zq2, zq3, zq4, zq5, zq6, zq7, zq8, zq9, zq10, zq11, zq12] <;> omega) | rfl))))
          conv => whnf
          (refine ⟨(fun s : Nat × List Int => L.length - s.1) ((i + 1, W)), [0, 1, 2], tmk 38 0 ((fun s : Nat × List Int => [(1, .v (.int .i64 line)), (5, .slc 2 1 0 s.2.length), (11, .slc 1 7 0 L.length), (12, .v (.int .i64 L.length)), (13, .v (.int .i64 s.1))]) ((i + 1, W))), (fun s : Nat × List Int => qHp true n L post ++ [.row true 3 [.int .i64] (s.2.map irow)]) ((i + 1, W)), ?_, ?_⟩; focus (first | (simp only []; omega) | omega))
          repeat ((conv => whnf); (first | refine Cnd.yes ?_ | refine Cnd.no ?_ | refine And.intro rfl ?_ | refine And.intro (by omega) ?_ | (refine And.intro ?_ ?_; focus (simp only [IntKind.wrap_i64, IntKind.wrap_u64, IntKind.wrap_u32]; omega)) | (refine And.intro ?_ ?_; focus (simp only [zl1, zl2, zl3, zl4, zl5, zl6, zl7, zl8, zl9] <;> omega))))
          conv => whnf
          exact ⟨(i + 1, W), ⟨hin, hn.symm⟩, rfl, rfl, (tmkK_eq _ _ _ _).mpr rfl, rfl⟩
        | true =>
          by_cases hq : yad / 16 = line
          · rw [if_pos (by simp [hitQ, hq])] at hn
            repeat ((conv => whnf); (first | refine Cnd.yes ?_ | refine Cnd.no ?_ | refine And.intro rfl ?_ | refine And.intro (by omega) ?_ | (refine And.intro ?_ ?_; focus (simp only [IntKind.wrap_i64, IntKind.wrap_u64, IntKind.wrap_u32]; omega)) | (refine And.intro ?_ ?_; focus (simp only [zl1, zl2, zl3, zl4, zl5, zl6, zl7, zl8, zl9] <;> omega)) | (refine Cnd.tt ?_ ?_; focus (first | (apply decide_eq_true; omega) | (simp only [zq1, zq2, zq3, zq4, zq5, zq6, zq7, zq8, zq9, zq10, zq11, zq12] <;> omega) | rfl)) | (refine Cnd.ff ?_ ?_; focus (first | (apply decide_eq_false; omega) | (simp only [zq1, zq2, zq3, zq4, zq5, zq6, zq7, zq8, zq9, zq10, zq11, zq12] <;> omega) | rfl))))
            conv => whnf
            rw [eq]
            repeat ((conv => whnf); (first | refine Cnd.yes ?_ | refine Cnd.no ?_ | refine And.intro rfl ?_ | refine And.intro (by omega) ?_ | (refine And.intro ?_ ?_; focus (simp only [IntKind.wrap_i64, IntKind.wrap_u64, IntKind.wrap_u32]; omega)) | (refine And.intro ?_ ?_; focus (simp only [zl1, zl2, zl3, zl4, zl5, zl6, zl7, zl8, zl9] <;> omega)) | (refine Cnd.tt ?_ ?_; focus (first | (apply decide_eq_true; omega) | (simp only [zq1, zq2, zq3, zq4, zq5, zq6, zq7, zq8, zq9, zq10, zq11, zq12] <;> omega) | rfl)) | (refine Cnd.ff ?_ ?_; focus (first | (apply decide_eq_false; omega) | (simp only [zq1, zq2, zq3, zq4, zq5, zq6, zq7, zq8, zq9, zq10, zq11, zq12] <;> omega) | rfl))))
            conv => whnf
            (refine ⟨(fun s : Nat × List Int => L.length - s.1) ((i + 1, W ++ [yid])), [0, 1, 5], tmk 38 0 ((fun s : Nat × List Int => [(1, .v (.int .i64 line)), (5, .slc 2 1 0 s.2.length), (11, .slc 1 7 0 L.length), (12, .v (.int .i64 L.length)), (13, .v (.int .i64 s.1))]) ((i + 1, W ++ [yid]))), (fun s : Nat × List Int => qHp true n L post ++ [.row true 3 [.int .i64] (s.2.map irow)]) ((i + 1, W ++ [yid])), ?_, ?_⟩; focus (first | (simp only []; omega) | omega))
            repeat ((conv => whnf); (first | refine Cnd.yes ?_ | refine Cnd.no ?_ | refine And.intro rfl ?_ | refine And.intro (by omega) ?_ | (refine And.intro ?_ ?_; focus (simp only [IntKind.wrap_i64, IntKind.wrap_u64, IntKind.wrap_u32]; omega)) | (refine And.intro ?_ ?_; focus (simp only [zl1, zl2, zl3, zl4, zl5, zl6, zl7, zl8, zl9] <;> omega))))
            conv => whnf
            refine ⟨by rw [List.drop_zero, List.take_of_length_le (by simp), List.map_append]; rfl, ?_⟩
            repeat ((conv => whnf); (first | refine Cnd.yes ?_ | refine Cnd.no ?_ | refine And.intro rfl ?_ | refine And.intro (by omega) ?_ | (refine And.intro ?_ ?_; focus (simp only [IntKind.wrap_i64, IntKind.wrap_u64, IntKind.wrap_u32]; omega)) | (refine And.intro ?_ ?_; focus (simp only [zl1, zl2, zl3, zl4, zl5, zl6, zl7, zl8, zl9] <;> omega))))
            conv => whnf
            exact ⟨(i + 1, W ++ [yid]), ⟨hin, hn.symm⟩, rfl, rfl, (tmkK_eq _ _ _ _).mpr rfl, rfl⟩
          · rw [if_neg (by simp [hitQ, hq]), List.append_nil] at hn
            repeat ((conv => whnf); (first | refine Cnd.yes ?_ | refine Cnd.no ?_ | refine And.intro rfl ?_ | refine And.intro (by omega) ?_ | (refine And.intro ?_ ?_; focus (simp only [IntKind.wrap_i64, IntKind.wrap_u64, IntKind.wrap_u32]; omega)) | (refine And.intro ?_ ?_; focus (simp only [zl1, zl2, zl3, zl4, zl5, zl6, zl7, zl8, zl9] <;> omega)) | (refine Cnd.tt ?_ ?_; focus (first | (apply decide_eq_true; omega) | (simp only [zq1, zq2, zq3, zq4, zq5, zq6, zq7, zq8, zq9, zq10, zq11, zq12] <;> omega) | rfl)) | (refine Cnd.ff ?_ ?_; focus (first | (apply decide_eq_false; omega) | (simp only [zq1, zq2, zq3, zq4, zq5, zq6, zq7, zq8, zq9, zq10, zq11, zq12] <;> omega) | rfl))))
            conv => whnf
            rw [eq]
            repeat ((conv => whnf); (first | refine Cnd.yes ?_ | refine Cnd.no ?_ | refine And.intro rfl ?_ | refine And.intro (by omega) ?_ | (refine And.intro ?_ ?_; focus (simp only [IntKind.wrap_i64, IntKind.wrap_u64, IntKind.wrap_u32]; omega)) | (refine And.intro ?_ ?_; focus (simp only [zl1, zl2, zl3, zl4, zl5, zl6, zl7, zl8, zl9] <;> omega)) | (refine Cnd.tt ?_ ?_; focus (first | (apply decide_eq_true; omega) | (simp only [zq1, zq2, zq3, zq4, zq5, zq6, zq7, zq8, zq9, zq10, zq11, zq12] <;> omega) | rfl)) | (refine Cnd.ff ?_ ?_; focus (first | (apply decide_eq_false; omega) | (simp only [zq1, zq2, zq3, zq4, zq5, zq6, zq7, zq8, zq9, zq10, zq11, zq12] <;> omega) | rfl))))
            conv => whnf
            (refine ⟨(fun s : Nat × List Int => L.length - s.1) ((i + 1, W)), [0, 1, 2], tmk 38 0 ((fun s : Nat × List Int => [(1, .v (.int .i64 line)), (5, .slc 2 1 0 s.2.length), (11, .slc 1 7 0 L.length), (12, .v (.int .i64 L.length)), (13, .v (.int .i64 s.1))]) ((i + 1, W))), (fun s : Nat × List Int => qHp true n L post ++ [.row true 3 [.int .i64] (s.2.map irow)]) ((i + 1, W)), ?_, ?_⟩; focus (first | (simp only []; omega) | omega))
            repeat ((conv => whnf); (first | refine Cnd.yes ?_ | refine Cnd.no ?_ | refine And.intro rfl ?_ | refine And.intro (by omega) ?_ | (refine And.intro ?_ ?_; focus (simp only [IntKind.wrap_i64, IntKind.wrap_u64, IntKind.wrap_u32]; omega)) | (refine And.intro ?_ ?_; focus (simp only [zl1, zl2, zl3, zl4, zl5, zl6, zl7, zl8, zl9] <;> omega))))
            conv => whnf
            exact ⟨(i + 1, W), ⟨hin, hn.symm⟩, rfl, rfl, (tmkK_eq _ _ _ _).mpr rfl, rfl⟩
    · obtain rfl : i = L.length := by have := of_decide_eq_false hge; omega
      rw [List.take_length] at hW
      subst hW
      repeat ((conv => whnf); (first | refine Cnd.yes ?_ | refine Cnd.no ?_ | refine And.intro rfl ?_ | refine And.intro (by omega) ?_ | (refine And.intro ?_ ?_; focus (simp only [IntKind.wrap_i64, IntKind.wrap_u64, IntKind.wrap_u32]; omega)) | (refine And.intro ?_ ?_; focus (simp only [zl1, zl2, zl3, zl4, zl5, zl6, zl7, zl8, zl9] <;> omega)) | (refine Cnd.tt ?_ ?_; focus (first | (apply decide_eq_true; omega) | (simp only [zq1, zq2, zq3, zq4, zq5, zq6, zq7, zq8, zq9, zq10, zq11, zq12] <;> omega) | rfl)) | (refine Cnd.ff ?_ ?_; focus (first | (apply decide_eq_false; omega) | (simp only [zq1, zq2, zq3, zq4, zq5, zq6, zq7, zq8, zq9, zq10, zq11, zq12] <;> omega) | rfl))))
      conv => whnf
      refine ⟨[0, 1, 2], .slc 2 1 0 (hitL line L).length, qHp true n L post ++ [.row true 3 [.int .i64] ((hitL line L).map irow)], ?_⟩
      repeat ((conv => whnf); (first | refine Cnd.yes ?_ | refine Cnd.no ?_ | refine And.intro rfl ?_ | refine And.intro (by omega) ?_ | (refine And.intro ?_ ?_; focus (simp only [IntKind.wrap_i64, IntKind.wrap_u64, IntKind.wrap_u32]; omega)) | (refine And.intro ?_ ?_; focus (simp only [zl1, zl2, zl3, zl4, zl5, zl6, zl7, zl8, zl9] <;> omega))))
      conv => whnf
      exact hK
def hitS : Vc.Spec := fun args hp _ K => ∃ (n line : Int) (L : List Q7) (post : List (List Value)), args = [.ptr 0 0 0 0, .v (.int .i64 line)] ∧ hp = qHp true n L post ∧ L.length ≤ 1000 ∧ (∀ y ∈ L, 0 ≤ y.ad ∧ y.ad < 4294967296) ∧
  K (.slc 2 1 0 (hitL line L).length) (qHp true n L post ++ [.row true 3 [.int .i64] ((hitL line L).map irow)])
theorem hit_ok : SOK Tryd.prog 18 hitS := by
  refine TOK.weaken (TOK.out (runF_eq G0_ok mixed at18.1 at18.2 pf18_eq)) fun args hp M K h => ?_
  obtain ⟨n, line, L, post, rfl, rfl, h1, h2, h3⟩ := h
  exact hit_run M K n line L post h1 h2 h3
theorem same_run (e : TypeId) (M : HL) (K : SV → List Ent → HL → Prop) (l : List Int) (hl : l.length ≤ 1000000)
    (hK : K (.v (.bool true)) [.row true e [.int .i64] (l.map irow), .row true e [.int .i64] (l.map irow)] M) :
    runF G0 pf17 [.slc 0 1 0 l.length, .slc 1 1 0 l.length] [.row true e [.int .i64] (l.map irow), .row true e [.int .i64] (l.map irow)] M K := by
  repeat ((conv => whnf); (first | refine Cnd.yes ?_ | refine Cnd.no ?_ | refine And.intro rfl ?_ | refine And.intro (by omega) ?_ | (refine And.intro ?_ ?_; focus (simp only [IntKind.wrap_i64, IntKind.wrap_u64, IntKind.wrap_u32]; omega)) | (refine And.intro ?_ ?_; focus (simp only [zl1, zl2, zl3, zl4, zl5, zl6, zl7, zl8, zl9] <;> omega)) | (refine Cnd.tt ?_ ?_; focus (first | (apply decide_eq_true; omega) | (simp only [zq1, zq2, zq3, zq4, zq5, zq6, zq7, zq8, zq9, zq10, zq11, zq12] <;> omega) | rfl)) | (refine Cnd.ff ?_ ?_; focus (first | (apply decide_eq_false; omega) | (simp only [zq1, zq2, zq3, zq4, zq5, zq6, zq7, zq8, zq9, zq10, zq11, zq12] <;> omega) | rfl))))
  conv => whnf
  refine ⟨InvS 29 (fun s : Nat => l.length - s) (fun s : Nat => s ≤ l.length) (fun s : Nat => [(0, .slc 0 1 0 l.length), (1, .slc 1 1 0 l.length), (5, .v (.int .i64 s))]) (fun s : Nat => [Ent.row true e [.int .i64] (l.map irow), .row true e [.int .i64] (l.map irow)]) M, ⟨(fun s : Nat => l.length - s) 0, [0, 1], tmk 29 0 ((fun s : Nat => [(0, .slc 0 1 0 l.length), (1, .slc 1 1 0 l.length), (5, .v (.int .i64 s))]) 0), (fun s : Nat => [Ent.row true e [.int .i64] (l.map irow), .row true e [.int .i64] (l.map irow)]) 0, ?_⟩, ?_⟩
  · repeat ((conv => whnf); (first | refine Cnd.yes ?_ | refine Cnd.no ?_ | refine And.intro rfl ?_ | refine And.intro (by omega) ?_ | (refine And.intro ?_ ?_; focus (simp only [IntKind.wrap_i64, IntKind.wrap_u64, IntKind.wrap_u32]; omega)) | (refine And.intro ?_ ?_; focus (simp only [zl1, zl2, zl3, zl4, zl5, zl6, zl7, zl8, zl9] <;> omega))))
    conv => whnf
    exact ⟨0, Nat.zero_le _, rfl, rfl, (tmkK_eq _ _ _ _).mpr rfl, rfl⟩
  · rintro cnt tm hp M1 ⟨i, hC_, rfl, rfl, htm, hhp_⟩
    replace hC_ : i ≤ l.length := hC_
    have hi := hC_
    replace htm : tmkK 29 0 [(0, .slc 0 1 0 l.length), (1, .slc 1 1 0 l.length), (5, .v (.int .i64 i))] (fun l => tm = l) := htm
    conv at htm => whnf
    subst htm
    replace hhp_ : hp = [Ent.row true e [.int .i64] (l.map irow), .row true e [.int .i64] (l.map irow)] := hhp_
    subst hhp_
    repeat ((conv => whnf); (first | refine Cnd.yes ?_ | refine Cnd.no ?_ | refine And.intro rfl ?_ | refine And.intro (by omega) ?_ | (refine And.intro ?_ ?_; focus (simp only [IntKind.wrap_i64, IntKind.wrap_u64, IntKind.wrap_u32]; omega)) | (refine And.intro ?_ ?_; focus (simp only [zl1, zl2, zl3, zl4, zl5, zl6, zl7, zl8, zl9] <;> omega)) | (refine Cnd.tt ?_ ?_; focus (first | (apply decide_eq_true; omega) | (simp only [zq1, zq2, zq3, zq4, zq5, zq6, zq7, zq8, zq9, zq10, zq11, zq12] <;> omega) | rfl)) | (refine Cnd.ff ?_ ?_; focus (first | (apply decide_eq_false; omega) | (simp only [zq1, zq2, zq3, zq4, zq5, zq6, zq7, zq8, zq9, zq10, zq11, zq12] <;> omega) | rfl))))
    conv => whnf
    refine Cnd.mk (fun hlt => ?_) fun hge => ?_
    · have hin : i < l.length := by have := of_decide_eq_true hlt; omega
      repeat ((conv => whnf); (first | refine Cnd.yes ?_ | refine Cnd.no ?_ | refine And.intro rfl ?_ | refine And.intro (by omega) ?_ | (refine And.intro ?_ ?_; focus (simp only [IntKind.wrap_i64, IntKind.wrap_u64, IntKind.wrap_u32]; omega)) | (refine And.intro ?_ ?_; focus (simp only [zl1, zl2, zl3, zl4, zl5, zl6, zl7, zl8, zl9] <;> omega)) | (refine Cnd.tt ?_ ?_; focus (first | (apply decide_eq_true; omega) | (simp only [zq1, zq2, zq3, zq4, zq5, zq6, zq7, zq8, zq9, zq10, zq11, zq12] <;> omega) | rfl)) | (refine Cnd.ff ?_ ?_; focus (first | (apply decide_eq_false; omega) | (simp only [zq1, zq2, zq3, zq4, zq5, zq6, zq7, zq8, zq9, zq10, zq11, zq12] <;> omega) | rfl))))
      conv => whnf
      (refine ⟨(fun s : Nat => l.length - s) (i + 1), [0, 1], tmk 29 0 ((fun s : Nat => [(0, .slc 0 1 0 l.length), (1, .slc 1 1 0 l.length), (5, .v (.int .i64 s))]) (i + 1)), (fun s : Nat => [Ent.row true e [.int .i64] (l.map irow), .row true e [.int .i64] (l.map irow)]) (i + 1), ?_, ?_⟩; focus (first | (simp only []; omega) | omega))
      repeat ((conv => whnf); (first | refine Cnd.yes ?_ | refine Cnd.no ?_ | refine And.intro rfl ?_ | refine And.intro (by omega) ?_ | (refine And.intro ?_ ?_; focus (simp only [IntKind.wrap_i64, IntKind.wrap_u64, IntKind.wrap_u32]; omega)) | (refine And.intro ?_ ?_; focus (simp only [zl1, zl2, zl3, zl4, zl5, zl6, zl7, zl8, zl9] <;> omega))))
      conv => whnf
      exact ⟨i + 1, hin, rfl, rfl, (tmkK_eq _ _ _ _).mpr rfl, rfl⟩
    · repeat ((conv => whnf); (first | refine Cnd.yes ?_ | refine Cnd.no ?_ | refine And.intro rfl ?_ | refine And.intro (by omega) ?_ | (refine And.intro ?_ ?_; focus (simp only [IntKind.wrap_i64, IntKind.wrap_u64, IntKind.wrap_u32]; omega)) | (refine And.intro ?_ ?_; focus (simp only [zl1, zl2, zl3, zl4, zl5, zl6, zl7, zl8, zl9] <;> omega)) | (refine Cnd.tt ?_ ?_; focus (first | (apply decide_eq_true; omega) | (simp only [zq1, zq2, zq3, zq4, zq5, zq6, zq7, zq8, zq9, zq10, zq11, zq12] <;> omega) | rfl)) | (refine Cnd.ff ?_ ?_; focus (first | (apply decide_eq_false; omega) | (simp only [zq1, zq2, zq3, zq4, zq5, zq6, zq7, zq8, zq9, zq10, zq11, zq12] <;> omega) | rfl))))
      conv => whnf
      exact hK
def sameS : Vc.Spec := fun args hp _ K => ∃ (e : TypeId) (l : List Int), args = [.slc 0 1 0 l.length, .slc 1 1 0 l.length] ∧ hp = [.row true e [.int .i64] (l.map irow), .row true e [.int .i64] (l.map irow)] ∧ l.length ≤ 1000000 ∧
  K (.v (.bool true)) [.row true e [.int .i64] (l.map irow), .row true e [.int .i64] (l.map irow)]
theorem same_ok : SOK Tryd.prog 17 sameS := by
  refine TOK.weaken (runF_eq G0_ok mixed at17.1 at17.2 pf17_eq) fun args hp M K h => ?_
  obtain ⟨e, l, rfl, rfl, h1, h2⟩ := h
  exact same_run e M K l h1 h2
noncomputable def specsJ : Nat → Option Vc.Trans := tget [(5, frameT firstS), (6, frameT newS), (8, frameT numS), (9, frameT addS), (10, frameT placeS), (15, frameT gotS), (16, frameT cutS), (18, frameT hitS), (17, frameT sameS)]
noncomputable def GJ : Nat → Option Vc.Trans := tabG specsJ (tget tab) 5
theorem GJ_ok : GOK Tryd.prog GJ := tabG_ok (GOK.cons (frame_ok first_ok) (GOK.cons (frame_ok new_ok) (GOK.cons (frame_ok num_ok) (GOK.cons (frame_ok add_ok) (GOK.cons (frame_ok place_ok) (GOK.cons (frame_ok got_ok) (GOK.cons (frame_ok cut_ok) (GOK.cons (frame_ok hit_ok) (GOK.cons (frame_ok same_ok) .nil))))))))) tab_ok 5
end Go.Proofs.YtjbknaniihkcnaaDoor
