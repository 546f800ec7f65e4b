/-
  The TLB: Clone, at, walked; their contracts.
-/
import Derived.Test.YtdmcdlgcmeledaaDoorCa
import Derived.Test.YtdmcdlgcmeledaaDoorVcu
namespace Go.Proofs.YtdmcdlgcmeledaaDoor
open Go Go.Vc
set_option maxRecDepth 100000
set_option linter.unusedSimpArgs false
set_option linter.unusedVariables false
def pck : List CK := [.int .u32, .int .u32, .int .u32, .int .i64, .bool]
def ock : List CK := [.int .u32, .sl]
theorem clone_run (M : HL) (K : SV → List Ent → HL → Prop) (o : Bool) (e : TypeId) (rows : List (List Value)) (hl : rows.length ≤ 1000) (hK : K (.slc 1 5 0 rows.length) [.row o e pck rows, .row true 42 pck rows] M) :
    runF G0 pf23 [.slc 0 5 0 rows.length] [.row o e pck rows] M fun v hp2 M2 => ∃ m v' hp', Wk (llen [Ent.row o e pck rows]) m [v] hp2 [v'] hp' (K v' hp' M2) := by
  have hrow : List.take 0 (List.drop 0 []) ++ List.take rows.length (List.drop 0 rows) = rows := by
    rw [List.drop_zero, List.drop_zero, List.take_of_length_le (l := rows) (by simp)]
    rfl
  repeat ((conv => whnf); (first | refine Cnd.yes ?_ | refine Cnd.no ?_ | refine And.intro rfl ?_ | refine And.intro (by omega) ?_ | (refine And.intro ?_ ?_; focus (simp only [IntKind.wrap_i64, IntKind.wrap_u64, IntKind.wrap_u32]; omega)) | (refine And.intro ?_ ?_; focus (simp only [zl1, zl2, zl3, zl4, zl5, zl6, zl7, zl8] <;> omega))))
  conv => whnf
  refine ⟨fun h0 => ?_, fun h0 => ?_⟩
  · repeat ((conv => whnf); (first | refine Cnd.yes ?_ | refine Cnd.no ?_ | refine And.intro rfl ?_ | refine And.intro (by omega) ?_ | (refine And.intro ?_ ?_; focus (simp only [IntKind.wrap_i64, IntKind.wrap_u64, IntKind.wrap_u32]; omega)) | (refine And.intro ?_ ?_; focus (simp only [zl1, zl2, zl3, zl4, zl5, zl6, zl7, zl8] <;> omega))))
    conv => whnf
    refine ⟨[0, 2], .slc 1 5 0 rows.length, [.row o e pck rows, .row true 42 pck rows], ?_⟩
    repeat ((conv => whnf); (first | refine Cnd.yes ?_ | refine Cnd.no ?_ | refine And.intro rfl ?_ | refine And.intro (by omega) ?_ | (refine And.intro ?_ ?_; focus (simp only [IntKind.wrap_i64, IntKind.wrap_u64, IntKind.wrap_u32]; omega)) | (refine And.intro ?_ ?_; focus (simp only [zl1, zl2, zl3, zl4, zl5, zl6, zl7, zl8] <;> omega))))
    conv => whnf
    exact hK
  · obtain rfl : rows = [] := List.eq_nil_of_length_eq_zero h0
    constructor
    · repeat ((conv => whnf); (first | refine Cnd.yes ?_ | refine Cnd.no ?_ | refine And.intro rfl ?_ | refine And.intro (by omega) ?_ | (refine And.intro ?_ ?_; focus (simp only [IntKind.wrap_i64, IntKind.wrap_u64, IntKind.wrap_u32]; omega)) | (refine And.intro ?_ ?_; focus (simp only [zl1, zl2, zl3, zl4, zl5, zl6, zl7, zl8] <;> omega))))
      conv => whnf
      refine ⟨[0, 9], .slc 1 5 0 0, [.row o e pck [], .row true 42 pck []], ?_⟩
      repeat ((conv => whnf); (first | refine Cnd.yes ?_ | refine Cnd.no ?_ | refine And.intro rfl ?_ | refine And.intro (by omega) ?_ | (refine And.intro ?_ ?_; focus (simp only [IntKind.wrap_i64, IntKind.wrap_u64, IntKind.wrap_u32]; omega)) | (refine And.intro ?_ ?_; focus (simp only [zl1, zl2, zl3, zl4, zl5, zl6, zl7, zl8] <;> omega))))
      conv => whnf
      exact hK
    · repeat ((conv => whnf); (first | refine Cnd.yes ?_ | refine Cnd.no ?_ | refine And.intro rfl ?_ | refine And.intro (by omega) ?_ | (refine And.intro ?_ ?_; focus (simp only [IntKind.wrap_i64, IntKind.wrap_u64, IntKind.wrap_u32]; omega)) | (refine And.intro ?_ ?_; focus (simp only [zl1, zl2, zl3, zl4, zl5, zl6, zl7, zl8] <;> omega))))
      conv => whnf
      refine ⟨[0, 2], .slc 1 5 0 0, [.row o e pck [], .row true 42 pck []], ?_⟩
      repeat ((conv => whnf); (first | refine Cnd.yes ?_ | refine Cnd.no ?_ | refine And.intro rfl ?_ | refine And.intro (by omega) ?_ | (refine And.intro ?_ ?_; focus (simp only [IntKind.wrap_i64, IntKind.wrap_u64, IntKind.wrap_u32]; omega)) | (refine And.intro ?_ ?_; focus (simp only [zl1, zl2, zl3, zl4, zl5, zl6, zl7, zl8] <;> omega))))
      conv => whnf
      exact hK
def cloneS : Vc.Spec := fun args hp _ K => ∃ (rows : List (List Value)) (o : Bool) (e : TypeId), args = [.slc 0 5 0 rows.length] ∧ hp = [.row o e pck rows] ∧ rows.length ≤ 1000 ∧ K (.slc 1 5 0 rows.length) [.row o e pck rows, .row true 42 pck rows]
theorem clone_ok : SOK Tryd.prog 23 cloneS := by
  refine TOK.weaken (TOK.out (runF_eq G0_ok mixed at23.1 at23.2 pf23_eq)) fun args hp M K h => ?_
  obtain ⟨rows, o, e, rfl, rfl, h1, h2⟩ := h
  exact clone_run M K o e rows h1 h2
theorem clone2_run (M : HL) (K : SV → List Ent → HL → Prop) (rows : List (List Value)) (i k : Nat) (hi : i + k ≤ rows.length) (hl : rows.length ≤ 1000) (hK : K (.slc 1 2 0 k) [.row true 68 ock rows, .row true 68 ock ((rows.drop i).take k)] M) :
    runF G0 pf24 [.slc 0 2 i k] [.row true 68 ock rows] M fun v hp2 M2 => ∃ m v' hp', Wk (llen [Ent.row true 68 ock rows]) m [v] hp2 [v'] hp' (K v' hp' M2) := by
  repeat ((conv => whnf); (first | refine Cnd.yes ?_ | refine Cnd.no ?_ | refine And.intro rfl ?_ | refine And.intro (by omega) ?_ | (refine And.intro ?_ ?_; focus (simp only [IntKind.wrap_i64, IntKind.wrap_u64, IntKind.wrap_u32]; omega)) | (refine And.intro ?_ ?_; focus (simp only [zl1, zl2, zl3, zl4, zl5, zl6, zl7, zl8] <;> omega))))
  conv => whnf
  refine ⟨fun h0 => ?_, fun h0 => ?_⟩
  · repeat ((conv => whnf); (first | refine Cnd.yes ?_ | refine Cnd.no ?_ | refine And.intro rfl ?_ | refine And.intro (by omega) ?_ | (refine And.intro ?_ ?_; focus (simp only [IntKind.wrap_i64, IntKind.wrap_u64, IntKind.wrap_u32]; omega)) | (refine And.intro ?_ ?_; focus (simp only [zl1, zl2, zl3, zl4, zl5, zl6, zl7, zl8] <;> omega))))
    conv => whnf
    refine ⟨[0, 2], .slc 1 2 0 k, [.row true 68 ock rows, .row true 68 ock ((rows.drop i).take k)], ?_⟩
    repeat ((conv => whnf); (first | refine Cnd.yes ?_ | refine Cnd.no ?_ | refine And.intro rfl ?_ | refine And.intro (by omega) ?_ | (refine And.intro ?_ ?_; focus (simp only [IntKind.wrap_i64, IntKind.wrap_u64, IntKind.wrap_u32]; omega)) | (refine And.intro ?_ ?_; focus (simp only [zl1, zl2, zl3, zl4, zl5, zl6, zl7, zl8] <;> omega))))
    conv => whnf
    exact hK
  · subst h0
    constructor
    · repeat ((conv => whnf); (first | refine Cnd.yes ?_ | refine Cnd.no ?_ | refine And.intro rfl ?_ | refine And.intro (by omega) ?_ | (refine And.intro ?_ ?_; focus (simp only [IntKind.wrap_i64, IntKind.wrap_u64, IntKind.wrap_u32]; omega)) | (refine And.intro ?_ ?_; focus (simp only [zl1, zl2, zl3, zl4, zl5, zl6, zl7, zl8] <;> omega))))
      conv => whnf
      refine ⟨[0, 9], .slc 1 2 0 0, [.row true 68 ock rows, .row true 68 ock []], ?_⟩
      repeat ((conv => whnf); (first | refine Cnd.yes ?_ | refine Cnd.no ?_ | refine And.intro rfl ?_ | refine And.intro (by omega) ?_ | (refine And.intro ?_ ?_; focus (simp only [IntKind.wrap_i64, IntKind.wrap_u64, IntKind.wrap_u32]; omega)) | (refine And.intro ?_ ?_; focus (simp only [zl1, zl2, zl3, zl4, zl5, zl6, zl7, zl8] <;> omega))))
      conv => whnf
      simpa using hK
    · repeat ((conv => whnf); (first | refine Cnd.yes ?_ | refine Cnd.no ?_ | refine And.intro rfl ?_ | refine And.intro (by omega) ?_ | (refine And.intro ?_ ?_; focus (simp only [IntKind.wrap_i64, IntKind.wrap_u64, IntKind.wrap_u32]; omega)) | (refine And.intro ?_ ?_; focus (simp only [zl1, zl2, zl3, zl4, zl5, zl6, zl7, zl8] <;> omega))))
      conv => whnf
      refine ⟨[0, 2], .slc 1 2 0 0, [.row true 68 ock rows, .row true 68 ock []], ?_⟩
      repeat ((conv => whnf); (first | refine Cnd.yes ?_ | refine Cnd.no ?_ | refine And.intro rfl ?_ | refine And.intro (by omega) ?_ | (refine And.intro ?_ ?_; focus (simp only [IntKind.wrap_i64, IntKind.wrap_u64, IntKind.wrap_u32]; omega)) | (refine And.intro ?_ ?_; focus (simp only [zl1, zl2, zl3, zl4, zl5, zl6, zl7, zl8] <;> omega))))
      conv => whnf
      simpa using hK
def clone2S : Vc.Spec := fun args hp _ K => ∃ (rows : List (List Value)) (i k : Nat), args = [.slc 0 2 i k] ∧ hp = [.row true 68 ock rows] ∧ i + k ≤ rows.length ∧ rows.length ≤ 1000 ∧ K (.slc 1 2 0 k) [.row true 68 ock rows, .row true 68 ock ((rows.drop i).take k)]
theorem clone2_ok : SOK Tryd.prog 24 clone2S := by
  refine TOK.weaken (TOK.out (runF_eq G0_ok mixed at24.1 at24.2 pf24_eq)) fun args hp M K h => ?_
  obtain ⟨rows, i, k, rfl, rfl, h1, h2, h3⟩ := h
  exact clone2_run M K rows i k h1 h2 h3
/-- An entry: its page, its slice. -/
structure One where
  p : Int
  y : Value
  c : List (List Value)
deriving Inhabited
def orow (x : One) : List Value := [.int .u32 x.p, x.y]
def tHp (o : Bool) (n : Int) (l : List One) (J : List (List Value)) : List Ent := [cellsB o 60 [.v (.int .i64 n), .slc 1 2 0 l.length], .row o 68 ock (l.map orow ++ J)]
theorem cell_mapJ {α : Type} (f : α → List Value) (l : List α) (J : List (List Value)) (d : α) {i : Nat} (hi : i < l.length) (k : Nat) : cellAt (l.map f ++ J) (0 + (i : Int).toNat) k = (f (l.getD i d)).getD k undef := by
  rw [Nat.zero_add, Int.toNat_natCast]
  have : (l.map f ++ J)[i]? = some (f l[i]) := by rw [List.getElem?_append_left (by simpa using hi)]; simp [hi]
  simp [cellAt, List.getD, hi, this]
/-- Where a page is first, or that it is not. -/
def IsAt (l : List One) (p k : Int) : Prop := (∃ i : Nat, k = i ∧ i < l.length ∧ (l.getD i default).p = p ∧ ∀ j, j < i → (l.getD j default).p ≠ p) ∨ (k = -1 ∧ ∀ j, j < l.length → (l.getD j default).p ≠ p)
theorem at_runT (M : HL) (K : SV → List Ent → HL → Prop) (n : Int) (l : List One) (J : List (List Value)) (p : Int) (hl : l.length ≤ 1000) (hK : ∀ k, IsAt l p k → K (.v (.int .i64 k)) (tHp true n l J) M) :
    runF G0 pf22 [.ptr 0 0 0 0, .v (.int .u32 p)] (tHp true n l J) M fun v hp2 M2 => ∃ m v' hp', Wk (llen (tHp true n l J)) m [v] hp2 [v'] hp' (K v' hp' M2) := by
  repeat ((conv => whnf); (first | refine Cnd.yes ?_ | refine Cnd.no ?_ | refine And.intro rfl ?_ | refine And.intro (by omega) ?_ | (refine And.intro ?_ ?_; focus (simp only [IntKind.wrap_i64, IntKind.wrap_u64, IntKind.wrap_u32]; omega)) | (refine And.intro ?_ ?_; focus (simp only [zl1, zl2, zl3, zl4, zl5, zl6, zl7, zl8] <;> omega))))
  conv => whnf
  refine ⟨InvS 19 (fun s : Nat => l.length - s) (fun s : Nat => s ≤ l.length ∧ ∀ j, j < s → (l.getD j default).p ≠ p) (fun s : Nat => [(0, .slc 1 2 0 l.length), (1, .fn (.func 34) [] [.ptr 2 0 0 0]), (6, .slc 1 2 0 l.length), (7, .v (.int .i64 l.length)), (8, .v (.int .i64 s))]) (fun s : Nat => tHp true n l J ++ [.cells 23 [.v (.int .u32 p)]]) M, ⟨(fun s : Nat => l.length - s) 0, [0, 1, 2], tmk 19 0 ((fun s : Nat => [(0, .slc 1 2 0 l.length), (1, .fn (.func 34) [] [.ptr 2 0 0 0]), (6, .slc 1 2 0 l.length), (7, .v (.int .i64 l.length)), (8, .v (.int .i64 s))]) 0), (fun s : Nat => tHp true n l J ++ [.cells 23 [.v (.int .u32 p)]]) 0, ?_⟩, ?_⟩
  · repeat ((conv => whnf); (first | refine Cnd.yes ?_ | refine Cnd.no ?_ | refine And.intro rfl ?_ | refine And.intro (by omega) ?_ | (refine And.intro ?_ ?_; focus (simp only [IntKind.wrap_i64, IntKind.wrap_u64, IntKind.wrap_u32]; omega)) | (refine And.intro ?_ ?_; focus (simp only [zl1, zl2, zl3, zl4, zl5, zl6, zl7, zl8] <;> omega))))
    conv => whnf
    exact ⟨0, ⟨by omega, fun j hj => by omega⟩, rfl, rfl, (tmkK_eq _ _ _ _).mpr rfl, rfl⟩
  · rintro cnt tm hp M1 ⟨i, hC_, rfl, rfl, htm, hhp_⟩
    replace hC_ : i ≤ l.length ∧ ∀ j, j < i → (l.getD j default).p ≠ p := hC_
    obtain ⟨hi, hall⟩ := hC_
    replace htm : tmkK 19 0 [(0, .slc 1 2 0 l.length), (1, .fn (.func 34) [] [.ptr 2 0 0 0]), (6, .slc 1 2 0 l.length), (7, .v (.int .i64 l.length)), (8, .v (.int .i64 i))] (fun l => tm = l) := htm
    conv at htm => whnf
    subst htm
    replace hhp_ : hp = tHp true n l J ++ [.cells 23 [.v (.int .u32 p)]] := hhp_
    subst hhp_
    repeat ((conv => whnf); (first | refine Cnd.yes ?_ | refine Cnd.no ?_ | refine And.intro rfl ?_ | refine And.intro (by omega) ?_ | (refine And.intro ?_ ?_; focus (simp only [IntKind.wrap_i64, IntKind.wrap_u64, IntKind.wrap_u32]; omega)) | (refine And.intro ?_ ?_; focus (simp only [zl1, zl2, zl3, zl4, zl5, zl6, zl7, zl8] <;> omega))))
    conv => whnf
    refine Cnd.mk (fun hlt => ?_) fun hge => ?_
    · have hin : i < l.length := by have := of_decide_eq_true hlt; omega
      have hc := fun k => cell_mapJ orow l J default hin k
      have e0 : toI (cellAt (l.map orow ++ J) (0 + (i : Int).toNat) 0) = (l.getD i default).p := by rw [hc]; rfl
      repeat ((conv => whnf); (first | refine Cnd.yes ?_ | refine Cnd.no ?_ | refine And.intro rfl ?_ | refine And.intro (by omega) ?_ | (refine And.intro ?_ ?_; focus (simp only [IntKind.wrap_i64, IntKind.wrap_u64, IntKind.wrap_u32]; omega)) | (refine And.intro ?_ ?_; focus (simp only [zl1, zl2, zl3, zl4, zl5, zl6, zl7, zl8] <;> omega))))
      conv => whnf
      rw [e0]
      by_cases hp : (l.getD i default).p = p
      · refine Cnd.tt (by simpa using hp) ?_
        repeat ((conv => whnf); (first | refine Cnd.yes ?_ | refine Cnd.no ?_ | refine And.intro rfl ?_ | refine And.intro (by omega) ?_ | (refine And.intro ?_ ?_; focus (simp only [IntKind.wrap_i64, IntKind.wrap_u64, IntKind.wrap_u32]; omega)) | (refine And.intro ?_ ?_; focus (simp only [zl1, zl2, zl3, zl4, zl5, zl6, zl7, zl8] <;> omega))))
        conv => whnf
        refine ⟨[0, 1], .v (.int .i64 i), tHp true n l J, ?_⟩
        repeat ((conv => whnf); (first | refine Cnd.yes ?_ | refine Cnd.no ?_ | refine And.intro rfl ?_ | refine And.intro (by omega) ?_ | (refine And.intro ?_ ?_; focus (simp only [IntKind.wrap_i64, IntKind.wrap_u64, IntKind.wrap_u32]; omega)) | (refine And.intro ?_ ?_; focus (simp only [zl1, zl2, zl3, zl4, zl5, zl6, zl7, zl8] <;> omega))))
        conv => whnf
        exact hK _ (.inl ⟨i, rfl, hin, hp, hall⟩)
      · refine Cnd.ff (by simpa using hp) ?_
        repeat ((conv => whnf); (first | refine Cnd.yes ?_ | refine Cnd.no ?_ | refine And.intro rfl ?_ | refine And.intro (by omega) ?_ | (refine And.intro ?_ ?_; focus (simp only [IntKind.wrap_i64, IntKind.wrap_u64, IntKind.wrap_u32]; omega)) | (refine And.intro ?_ ?_; focus (simp only [zl1, zl2, zl3, zl4, zl5, zl6, zl7, zl8] <;> omega))))
        conv => whnf
        (refine ⟨(fun s : Nat => l.length - s) (i + 1), [0, 1, 2], tmk 19 0 ((fun s : Nat => [(0, .slc 1 2 0 l.length), (1, .fn (.func 34) [] [.ptr 2 0 0 0]), (6, .slc 1 2 0 l.length), (7, .v (.int .i64 l.length)), (8, .v (.int .i64 s))]) (i + 1)), (fun s : Nat => tHp true n l J ++ [.cells 23 [.v (.int .u32 p)]]) (i + 1), ?_, ?_⟩; focus (first | (simp only []; omega) | omega))
        repeat ((conv => whnf); (first | refine Cnd.yes ?_ | refine Cnd.no ?_ | refine And.intro rfl ?_ | refine And.intro (by omega) ?_ | (refine And.intro ?_ ?_; focus (simp only [IntKind.wrap_i64, IntKind.wrap_u64, IntKind.wrap_u32]; omega)) | (refine And.intro ?_ ?_; focus (simp only [zl1, zl2, zl3, zl4, zl5, zl6, zl7, zl8] <;> omega))))
        conv => whnf
        exact ⟨i + 1, ⟨by omega, fun j hj => by rcases Nat.lt_succ_iff_lt_or_eq.1 hj with h | h; exact hall j h; rw [h]; exact hp⟩, rfl, rfl, (tmkK_eq _ _ _ _).mpr rfl, rfl⟩
    · have hin : i = l.length := by have := of_decide_eq_false hge; omega
      repeat ((conv => whnf); (first | refine Cnd.yes ?_ | refine Cnd.no ?_ | refine And.intro rfl ?_ | refine And.intro (by omega) ?_ | (refine And.intro ?_ ?_; focus (simp only [IntKind.wrap_i64, IntKind.wrap_u64, IntKind.wrap_u32]; omega)) | (refine And.intro ?_ ?_; focus (simp only [zl1, zl2, zl3, zl4, zl5, zl6, zl7, zl8] <;> omega))))
      conv => whnf
      refine ⟨[0, 1], .v (.int .i64 (-1)), tHp true n l J, ?_⟩
      repeat ((conv => whnf); (first | refine Cnd.yes ?_ | refine Cnd.no ?_ | refine And.intro rfl ?_ | refine And.intro (by omega) ?_ | (refine And.intro ?_ ?_; focus (simp only [IntKind.wrap_i64, IntKind.wrap_u64, IntKind.wrap_u32]; omega)) | (refine And.intro ?_ ?_; focus (simp only [zl1, zl2, zl3, zl4, zl5, zl6, zl7, zl8] <;> omega))))
      conv => whnf
      exact hK _ (.inr ⟨rfl, by rw [← hin]; exact hall⟩)
theorem at_runF (M : HL) (K : SV → List Ent → HL → Prop) (n : Int) (l : List One) (J : List (List Value)) (p : Int) (hl : l.length ≤ 1000) (hK : ∀ k, IsAt l p k → K (.v (.int .i64 k)) (tHp false n l J) M) :
    runF G0 pf22 [.ptr 0 0 0 0, .v (.int .u32 p)] (tHp false n l J) M fun v hp2 M2 => ∃ m v' hp', Wk (llen (tHp false n l J)) m [v] hp2 [v'] hp' (K v' hp' M2) := by
  repeat ((conv => whnf); (first | refine Cnd.yes ?_ | refine Cnd.no ?_ | refine And.intro rfl ?_ | refine And.intro (by omega) ?_ | (refine And.intro ?_ ?_; focus (simp only [IntKind.wrap_i64, IntKind.wrap_u64, IntKind.wrap_u32]; omega)) | (refine And.intro ?_ ?_; focus (simp only [zl1, zl2, zl3, zl4, zl5, zl6, zl7, zl8] <;> omega))))
  conv => whnf
  refine ⟨InvS 19 (fun s : Nat => l.length - s) (fun s : Nat => s ≤ l.length ∧ ∀ j, j < s → (l.getD j default).p ≠ p) (fun s : Nat => [(0, .slc 1 2 0 l.length), (1, .fn (.func 34) [] [.ptr 2 0 0 0]), (6, .slc 1 2 0 l.length), (7, .v (.int .i64 l.length)), (8, .v (.int .i64 s))]) (fun s : Nat => tHp false n l J ++ [.cells 23 [.v (.int .u32 p)]]) M, ⟨(fun s : Nat => l.length - s) 0, [0, 1, 2], tmk 19 0 ((fun s : Nat => [(0, .slc 1 2 0 l.length), (1, .fn (.func 34) [] [.ptr 2 0 0 0]), (6, .slc 1 2 0 l.length), (7, .v (.int .i64 l.length)), (8, .v (.int .i64 s))]) 0), (fun s : Nat => tHp false n l J ++ [.cells 23 [.v (.int .u32 p)]]) 0, ?_⟩, ?_⟩
  · repeat ((conv => whnf); (first | refine Cnd.yes ?_ | refine Cnd.no ?_ | refine And.intro rfl ?_ | refine And.intro (by omega) ?_ | (refine And.intro ?_ ?_; focus (simp only [IntKind.wrap_i64, IntKind.wrap_u64, IntKind.wrap_u32]; omega)) | (refine And.intro ?_ ?_; focus (simp only [zl1, zl2, zl3, zl4, zl5, zl6, zl7, zl8] <;> omega))))
    conv => whnf
    exact ⟨0, ⟨by omega, fun j hj => by omega⟩, rfl, rfl, (tmkK_eq _ _ _ _).mpr rfl, rfl⟩
  · rintro cnt tm hp M1 ⟨i, hC_, rfl, rfl, htm, hhp_⟩
    replace hC_ : i ≤ l.length ∧ ∀ j, j < i → (l.getD j default).p ≠ p := hC_
    obtain ⟨hi, hall⟩ := hC_
    replace htm : tmkK 19 0 [(0, .slc 1 2 0 l.length), (1, .fn (.func 34) [] [.ptr 2 0 0 0]), (6, .slc 1 2 0 l.length), (7, .v (.int .i64 l.length)), (8, .v (.int .i64 i))] (fun l => tm = l) := htm
    conv at htm => whnf
    subst htm
    replace hhp_ : hp = tHp false n l J ++ [.cells 23 [.v (.int .u32 p)]] := hhp_
    subst hhp_
    repeat ((conv => whnf); (first | refine Cnd.yes ?_ | refine Cnd.no ?_ | refine And.intro rfl ?_ | refine And.intro (by omega) ?_ | (refine And.intro ?_ ?_; focus (simp only [IntKind.wrap_i64, IntKind.wrap_u64, IntKind.wrap_u32]; omega)) | (refine And.intro ?_ ?_; focus (simp only [zl1, zl2, zl3, zl4, zl5, zl6, zl7, zl8] <;> omega))))
    conv => whnf
    refine Cnd.mk (fun hlt => ?_) fun hge => ?_
    · have hin : i < l.length := by have := of_decide_eq_true hlt; omega
      have hc := fun k => cell_mapJ orow l J default hin k
      have e0 : toI (cellAt (l.map orow ++ J) (0 + (i : Int).toNat) 0) = (l.getD i default).p := by rw [hc]; rfl
      repeat ((conv => whnf); (first | refine Cnd.yes ?_ | refine Cnd.no ?_ | refine And.intro rfl ?_ | refine And.intro (by omega) ?_ | (refine And.intro ?_ ?_; focus (simp only [IntKind.wrap_i64, IntKind.wrap_u64, IntKind.wrap_u32]; omega)) | (refine And.intro ?_ ?_; focus (simp only [zl1, zl2, zl3, zl4, zl5, zl6, zl7, zl8] <;> omega))))
      conv => whnf
      rw [e0]
      by_cases hp : (l.getD i default).p = p
      · refine Cnd.tt (by simpa using hp) ?_
        repeat ((conv => whnf); (first | refine Cnd.yes ?_ | refine Cnd.no ?_ | refine And.intro rfl ?_ | refine And.intro (by omega) ?_ | (refine And.intro ?_ ?_; focus (simp only [IntKind.wrap_i64, IntKind.wrap_u64, IntKind.wrap_u32]; omega)) | (refine And.intro ?_ ?_; focus (simp only [zl1, zl2, zl3, zl4, zl5, zl6, zl7, zl8] <;> omega))))
        conv => whnf
        refine ⟨[0, 1], .v (.int .i64 i), tHp false n l J, ?_⟩
        repeat ((conv => whnf); (first | refine Cnd.yes ?_ | refine Cnd.no ?_ | refine And.intro rfl ?_ | refine And.intro (by omega) ?_ | (refine And.intro ?_ ?_; focus (simp only [IntKind.wrap_i64, IntKind.wrap_u64, IntKind.wrap_u32]; omega)) | (refine And.intro ?_ ?_; focus (simp only [zl1, zl2, zl3, zl4, zl5, zl6, zl7, zl8] <;> omega))))
        conv => whnf
        exact hK _ (.inl ⟨i, rfl, hin, hp, hall⟩)
      · refine Cnd.ff (by simpa using hp) ?_
        repeat ((conv => whnf); (first | refine Cnd.yes ?_ | refine Cnd.no ?_ | refine And.intro rfl ?_ | refine And.intro (by omega) ?_ | (refine And.intro ?_ ?_; focus (simp only [IntKind.wrap_i64, IntKind.wrap_u64, IntKind.wrap_u32]; omega)) | (refine And.intro ?_ ?_; focus (simp only [zl1, zl2, zl3, zl4, zl5, zl6, zl7, zl8] <;> omega))))
        conv => whnf
        (refine ⟨(fun s : Nat => l.length - s) (i + 1), [0, 1, 2], tmk 19 0 ((fun s : Nat => [(0, .slc 1 2 0 l.length), (1, .fn (.func 34) [] [.ptr 2 0 0 0]), (6, .slc 1 2 0 l.length), (7, .v (.int .i64 l.length)), (8, .v (.int .i64 s))]) (i + 1)), (fun s : Nat => tHp false n l J ++ [.cells 23 [.v (.int .u32 p)]]) (i + 1), ?_, ?_⟩; focus (first | (simp only []; omega) | omega))
        repeat ((conv => whnf); (first | refine Cnd.yes ?_ | refine Cnd.no ?_ | refine And.intro rfl ?_ | refine And.intro (by omega) ?_ | (refine And.intro ?_ ?_; focus (simp only [IntKind.wrap_i64, IntKind.wrap_u64, IntKind.wrap_u32]; omega)) | (refine And.intro ?_ ?_; focus (simp only [zl1, zl2, zl3, zl4, zl5, zl6, zl7, zl8] <;> omega))))
        conv => whnf
        exact ⟨i + 1, ⟨by omega, fun j hj => by rcases Nat.lt_succ_iff_lt_or_eq.1 hj with h | h; exact hall j h; rw [h]; exact hp⟩, rfl, rfl, (tmkK_eq _ _ _ _).mpr rfl, rfl⟩
    · have hin : i = l.length := by have := of_decide_eq_false hge; omega
      repeat ((conv => whnf); (first | refine Cnd.yes ?_ | refine Cnd.no ?_ | refine And.intro rfl ?_ | refine And.intro (by omega) ?_ | (refine And.intro ?_ ?_; focus (simp only [IntKind.wrap_i64, IntKind.wrap_u64, IntKind.wrap_u32]; omega)) | (refine And.intro ?_ ?_; focus (simp only [zl1, zl2, zl3, zl4, zl5, zl6, zl7, zl8] <;> omega))))
      conv => whnf
      refine ⟨[0, 1], .v (.int .i64 (-1)), tHp false n l J, ?_⟩
      repeat ((conv => whnf); (first | refine Cnd.yes ?_ | refine Cnd.no ?_ | refine And.intro rfl ?_ | refine And.intro (by omega) ?_ | (refine And.intro ?_ ?_; focus (simp only [IntKind.wrap_i64, IntKind.wrap_u64, IntKind.wrap_u32]; omega)) | (refine And.intro ?_ ?_; focus (simp only [zl1, zl2, zl3, zl4, zl5, zl6, zl7, zl8] <;> omega))))
      conv => whnf
      exact hK _ (.inr ⟨rfl, by rw [← hin]; exact hall⟩)
def atS : Vc.Spec := fun args hp _ K => ∃ (o : Bool) (n : Int) (l : List One) (J : List (List Value)) (p : Int), args = [.ptr 0 0 0 0, .v (.int .u32 p)] ∧ hp = tHp o n l J ∧ l.length ≤ 1000 ∧ ∀ k, IsAt l p k → K (.v (.int .i64 k)) (tHp o n l J)
theorem at_ok : SOK Tryd.prog 22 atS := by
  refine TOK.weaken (TOK.out (runF_eq G0_ok mixed at22.1 at22.2 pf22_eq)) fun args hp M K h => ?_
  obtain ⟨o, n, l, J, p, rfl, rfl, h1, h2⟩ := h
  cases o with
  | true => exact at_runT M K n l J p h1 h2
  | false => exact at_runF M K n l J p h1 h2
end Go.Proofs.YtdmcdlgcmeledaaDoor
