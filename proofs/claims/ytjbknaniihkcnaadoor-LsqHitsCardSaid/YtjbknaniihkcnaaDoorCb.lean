/-
  The queue: New, at, Add, Place, Value, Got, walked; their contracts.
-/
import Derived.Test.YtjbknaniihkcnaaDoorCa
import Derived.Test.YtjbknaniihkcnaaDoorVcu
namespace Go.Proofs.YtjbknaniihkcnaaDoor
open Go Go.Vc
set_option maxRecDepth 100000
set_option linter.unusedSimpArgs false
set_option linter.unusedVariables false
set_option maxHeartbeats 4000000
/-- A load or a store. -/
structure Q7 where
  id : Int
  st : Bool
  pl : Bool
  kn : Bool
  ad : Int
  sz : Int
  v : Int
deriving Inhabited
def qck : List CK := [.int .i64, .bool, .bool, .bool, .int .u32, .int .i64, .int .u32]
def qrow (x : Q7) : List Value := [.int .i64 x.id, .bool x.st, .bool x.pl, .bool x.kn, .int .u32 x.ad, .int .i64 x.sz, .int .u32 x.v]
theorem cellM (A : List (List Value)) (r : List Value) (B : List (List Value)) {j : Nat} (k : Nat) (hj : j = A.length) : cellAt (A ++ r :: B) j k = r.getD k undef := by
  subst hj
  simp [cellAt, List.getD]
theorem setM (A : List (List Value)) (r : List Value) (B : List (List Value)) {j : Nat} (o : Nat) (vs : List Value) (hj : j = A.length) : (A ++ r :: B).set j (over ((A ++ r :: B).getD j []) o vs) = A ++ over r o vs :: B := by
  subst hj
  have e : (A ++ r :: B).getD A.length [] = r := by simp [List.getD]
  rw [e]
  simp
theorem cellL (L : List Q7) (post : List (List Value)) {i : Nat} (hi : i < L.length) (k : Nat) : cellAt (L.map qrow ++ post) i k = (qrow (L.getD i default)).getD k undef := by
  simp [cellAt, List.getD, List.getElem?_append_left, hi]
theorem number_run (M : HL) (K : SV → List Ent → HL → Prop) (hp : List Ent) (x b : Int) (hb : 0 < b) (hb2 : b ≤ 1000000) (hK : K (.v (.int .i64 (x % b))) hp M) : runF G0 pf8 [.v (.int .i64 x), .v (.int .i64 b)] hp M K := by
  have h1 : -b < Int.tmod x b := Int.lt_tmod_of_pos x hb
  have h2 : Int.tmod x b < b := Int.tmod_lt_of_pos x hb
  have e : IntKind.i64.wrap (Int.tmod x b + b) = Int.tmod x b + b := by rw [IntKind.wrap_i64]; omega
  have e2 : Int.tmod (Int.tmod x b + b) b = x % b := by
    rw [Int.tmod_eq_emod_of_nonneg (by omega), Int.add_emod_right]
    have := Int.mul_tdiv_add_tmod x b
    conv => rhs; rw [← this]
    rw [Int.add_comm, Int.add_mul_emod_self_left]
  repeat ((conv => whnf); (first | refine Cnd.yes ?_ | refine Cnd.no ?_ | refine And.intro rfl ?_ | refine And.intro (by omega) ?_ | (refine And.intro ?_ ?_; focus (simp only [IntKind.wrap_i64, IntKind.wrap_u64, IntKind.wrap_u32]; omega)) | (refine And.intro ?_ ?_; focus (simp only [zl1, zl2, zl3, zl4, zl5, zl6, zl7, zl8, zl9] <;> omega))))
  conv => whnf
  rw [e]
  repeat ((conv => whnf); (first | refine Cnd.yes ?_ | refine Cnd.no ?_ | refine And.intro rfl ?_ | refine And.intro (by omega) ?_ | (refine And.intro ?_ ?_; focus (simp only [IntKind.wrap_i64, IntKind.wrap_u64, IntKind.wrap_u32]; omega)) | (refine And.intro ?_ ?_; focus (simp only [zl1, zl2, zl3, zl4, zl5, zl6, zl7, zl8, zl9] <;> omega))))
  conv => whnf
  rw [e2]
  exact hK
def numS : Vc.Spec := fun args hp _ K => ∃ x b : Int, args = [.v (.int .i64 x), .v (.int .i64 b)] ∧ 0 < b ∧ b ≤ 1000000 ∧ K (.v (.int .i64 (x % b))) hp
theorem num_ok : SOK Tryd.prog 8 numS := by
  refine TOK.weaken (runF_eq G0_ok mixed at8.1 at8.2 pf8_eq) fun args hp M K h => ?_
  obtain ⟨x, b, rfl, h1, h2, h3⟩ := h
  exact number_run M K hp x b h1 h2 h3
def qHp (o : Bool) (n : Int) (L : List Q7) (post : List (List Value)) : List Ent := [cellsB o 56 [.v (.int .i64 n), .slc 1 7 0 L.length], .row o 61 qck (L.map qrow ++ post)]
theorem new_run (M : HL) (K : SV → List Ent → HL → Prop) (n : Int) (h1 : 1 ≤ n) (h2 : n ≤ 64) (hK : K (.tup [.ptr 0 0 0 0, .v .nilIface]) (qHp true n [] []) M) :
    runF G0 pf6 [.v (.int .i64 n)] [] M fun v hp2 M2 => ∃ m v' hp', Wk (llen ([] : List Ent)) m [v] hp2 [v'] hp' (K v' hp' M2) := by
  repeat ((conv => whnf); (first | refine Cnd.yes ?_ | refine Cnd.no ?_ | refine And.intro rfl ?_ | refine And.intro (by omega) ?_ | (refine And.intro ?_ ?_; focus (simp only [IntKind.wrap_i64, IntKind.wrap_u64, IntKind.wrap_u32]; omega)) | (refine And.intro ?_ ?_; focus (simp only [zl1, zl2, zl3, zl4, zl5, zl6, zl7, zl8, zl9] <;> omega)) | (refine Cnd.tt ?_ ?_; focus (first | (apply decide_eq_true; omega) | (simp only [zq1, zq2, zq3, zq4, zq5, zq6, zq7, zq8, zq9, zq10, zq11, zq12] <;> omega) | rfl)) | (refine Cnd.ff ?_ ?_; focus (first | (apply decide_eq_false; omega) | (simp only [zq1, zq2, zq3, zq4, zq5, zq6, zq7, zq8, zq9, zq10, zq11, zq12] <;> omega) | rfl))))
  conv => whnf
  refine ⟨[0, 9], .tup [.ptr 0 0 0 0, .v .nilIface], qHp true n [] [], ?_⟩
  repeat ((conv => whnf); (first | refine Cnd.yes ?_ | refine Cnd.no ?_ | refine And.intro rfl ?_ | refine And.intro (by omega) ?_ | (refine And.intro ?_ ?_; focus (simp only [IntKind.wrap_i64, IntKind.wrap_u64, IntKind.wrap_u32]; omega)) | (refine And.intro ?_ ?_; focus (simp only [zl1, zl2, zl3, zl4, zl5, zl6, zl7, zl8, zl9] <;> omega))))
  conv => whnf
  exact hK
def newS : Vc.Spec := fun args hp _ K => ∃ n : Int, args = [.v (.int .i64 n)] ∧ hp = [] ∧ 1 ≤ n ∧ n ≤ 64 ∧ K (.tup [.ptr 0 0 0 0, .v .nilIface]) (qHp true n [] [])
theorem new_ok : SOK Tryd.prog 6 newS := by
  refine TOK.weaken (TOK.out (runF_eq G0_ok mixed at6.1 at6.2 pf6_eq)) fun args hp M K h => ?_
  obtain ⟨n, rfl, rfl, h1, h2, h3⟩ := h
  exact new_run M K n h1 h2 h3
/-- IndexFunc with the closure of 'at': where the number stands first. -/
theorem idx_run (M : HL) (K : SV → List Ent → HL → Prop) (o : Bool) (id : Int) (P : List Q7) (x : Q7) (R : List (List Value)) (len : Nat) (hl : P.length < len) (hl2 : len ≤ P.length + 1 + R.length) (hl3 : len ≤ 1000) (hx : x.id = id) (hP : ∀ y ∈ P, y.id ≠ id)
    (hK : K (.v (.int .i64 P.length)) [.row o 61 qck (P.map qrow ++ qrow x :: R), .cells 3 [.v (.int .i64 id)]] M) :
    runF G0 pf28 [.slc 0 7 0 len, .fn (.func 29) [] [.ptr 1 0 0 0]] [.row o 61 qck (P.map qrow ++ qrow x :: R), .cells 3 [.v (.int .i64 id)]] M fun v hp2 M2 => ∃ m v' hp', Wk (llen [Ent.row o 61 qck (P.map qrow ++ qrow x :: R), .cells 3 [.v (.int .i64 id)]]) m [v] hp2 [v'] hp' (K v' hp' M2) := by
  repeat ((conv => whnf); (first | refine Cnd.yes ?_ | refine Cnd.no ?_ | refine And.intro rfl ?_ | refine And.intro (by omega) ?_ | (refine And.intro ?_ ?_; focus (simp only [IntKind.wrap_i64, IntKind.wrap_u64, IntKind.wrap_u32]; omega)) | (refine And.intro ?_ ?_; focus (simp only [zl1, zl2, zl3, zl4, zl5, zl6, zl7, zl8, zl9] <;> omega)) | (refine Cnd.tt ?_ ?_; focus (first | (apply decide_eq_true; omega) | (simp only [zq1, zq2, zq3, zq4, zq5, zq6, zq7, zq8, zq9, zq10, zq11, zq12] <;> omega) | rfl)) | (refine Cnd.ff ?_ ?_; focus (first | (apply decide_eq_false; omega) | (simp only [zq1, zq2, zq3, zq4, zq5, zq6, zq7, zq8, zq9, zq10, zq11, zq12] <;> omega) | rfl))))
  conv => whnf
  refine ⟨InvS 19 (fun s : Nat => len - s) (fun s : Nat => s ≤ P.length) (fun s : Nat => [(0, .slc 0 7 0 len), (1, .fn (.func 29) [] [.ptr 1 0 0 0]), (7, .v (.int .i64 len)), (8, .v (.int .i64 s))]) (fun s : Nat => [Ent.row o 61 qck (P.map qrow ++ qrow x :: R), .cells 3 [.v (.int .i64 id)]]) M, ⟨(fun s : Nat => len - s) 0, [0, 1], tmk 19 0 ((fun s : Nat => [(0, .slc 0 7 0 len), (1, .fn (.func 29) [] [.ptr 1 0 0 0]), (7, .v (.int .i64 len)), (8, .v (.int .i64 s))]) 0), (fun s : Nat => [Ent.row o 61 qck (P.map qrow ++ qrow x :: R), .cells 3 [.v (.int .i64 id)]]) 0, ?_⟩, ?_⟩
  · repeat ((conv => whnf); (first | refine Cnd.yes ?_ | refine Cnd.no ?_ | refine And.intro rfl ?_ | refine And.intro (by omega) ?_ | (refine And.intro ?_ ?_; focus (simp only [IntKind.wrap_i64, IntKind.wrap_u64, IntKind.wrap_u32]; omega)) | (refine And.intro ?_ ?_; focus (simp only [zl1, zl2, zl3, zl4, zl5, zl6, zl7, zl8, zl9] <;> omega))))
    conv => whnf
    exact ⟨0, Nat.zero_le _, rfl, rfl, (tmkK_eq _ _ _ _).mpr rfl, rfl⟩
  · rintro cnt tm hp M1 ⟨i, hC_, rfl, rfl, htm, hhp_⟩
    replace hC_ : i ≤ P.length := hC_
    have hi := hC_
    replace htm : tmkK 19 0 [(0, .slc 0 7 0 len), (1, .fn (.func 29) [] [.ptr 1 0 0 0]), (7, .v (.int .i64 len)), (8, .v (.int .i64 i))] (fun l => tm = l) := htm
    conv at htm => whnf
    subst htm
    replace hhp_ : hp = [Ent.row o 61 qck (P.map qrow ++ qrow x :: R), .cells 3 [.v (.int .i64 id)]] := hhp_
    subst hhp_
    by_cases hin : i < P.length
    · obtain ⟨y, hy⟩ : ∃ y, P[i]? = some y := ⟨_, List.getElem?_eq_getElem hin⟩
      have hyn := hP y (List.mem_of_getElem? hy)
      have e0 : toI (cellAt (P.map qrow ++ qrow x :: R) (0 + (i : Int).toNat) 0) = y.id := by
        rw [Nat.zero_add, Int.toNat_natCast, cellL P _ hin]
        simp [List.getD, hy, qrow, toI]
      repeat ((conv => whnf); (first | refine Cnd.yes ?_ | refine Cnd.no ?_ | refine And.intro rfl ?_ | refine And.intro (by omega) ?_ | (refine And.intro ?_ ?_; focus (simp only [IntKind.wrap_i64, IntKind.wrap_u64, IntKind.wrap_u32]; omega)) | (refine And.intro ?_ ?_; focus (simp only [zl1, zl2, zl3, zl4, zl5, zl6, zl7, zl8, zl9] <;> omega)) | (refine Cnd.tt ?_ ?_; focus (first | (apply decide_eq_true; omega) | (simp only [zq1, zq2, zq3, zq4, zq5, zq6, zq7, zq8, zq9, zq10, zq11, zq12] <;> omega) | rfl)) | (refine Cnd.ff ?_ ?_; focus (first | (apply decide_eq_false; omega) | (simp only [zq1, zq2, zq3, zq4, zq5, zq6, zq7, zq8, zq9, zq10, zq11, zq12] <;> omega) | rfl))))
      conv => whnf
      rw [e0]
      repeat ((conv => whnf); (first | refine Cnd.yes ?_ | refine Cnd.no ?_ | refine And.intro rfl ?_ | refine And.intro (by omega) ?_ | (refine And.intro ?_ ?_; focus (simp only [IntKind.wrap_i64, IntKind.wrap_u64, IntKind.wrap_u32]; omega)) | (refine And.intro ?_ ?_; focus (simp only [zl1, zl2, zl3, zl4, zl5, zl6, zl7, zl8, zl9] <;> omega)) | (refine Cnd.tt ?_ ?_; focus (first | (apply decide_eq_true; omega) | (simp only [zq1, zq2, zq3, zq4, zq5, zq6, zq7, zq8, zq9, zq10, zq11, zq12] <;> omega) | rfl)) | (refine Cnd.ff ?_ ?_; focus (first | (apply decide_eq_false; omega) | (simp only [zq1, zq2, zq3, zq4, zq5, zq6, zq7, zq8, zq9, zq10, zq11, zq12] <;> omega) | rfl))))
      conv => whnf
      (refine ⟨(fun s : Nat => len - s) ((i + 1)), [0, 1], tmk 19 0 ((fun s : Nat => [(0, .slc 0 7 0 len), (1, .fn (.func 29) [] [.ptr 1 0 0 0]), (7, .v (.int .i64 len)), (8, .v (.int .i64 s))]) ((i + 1))), (fun s : Nat => [Ent.row o 61 qck (P.map qrow ++ qrow x :: R), .cells 3 [.v (.int .i64 id)]]) ((i + 1)), ?_, ?_⟩; focus (first | (simp only []; omega) | omega))
      repeat ((conv => whnf); (first | refine Cnd.yes ?_ | refine Cnd.no ?_ | refine And.intro rfl ?_ | refine And.intro (by omega) ?_ | (refine And.intro ?_ ?_; focus (simp only [IntKind.wrap_i64, IntKind.wrap_u64, IntKind.wrap_u32]; omega)) | (refine And.intro ?_ ?_; focus (simp only [zl1, zl2, zl3, zl4, zl5, zl6, zl7, zl8, zl9] <;> omega))))
      conv => whnf
      exact ⟨i + 1, hin, rfl, rfl, (tmkK_eq _ _ _ _).mpr rfl, rfl⟩
    · obtain rfl : i = P.length := by omega
      have e0 : toI (cellAt (P.map qrow ++ qrow x :: R) (0 + (P.length : Int).toNat) 0) = id := by
        rw [Nat.zero_add, Int.toNat_natCast, cellM _ _ _ _ (by simp)]
        exact hx
      repeat ((conv => whnf); (first | refine Cnd.yes ?_ | refine Cnd.no ?_ | refine And.intro rfl ?_ | refine And.intro (by omega) ?_ | (refine And.intro ?_ ?_; focus (simp only [IntKind.wrap_i64, IntKind.wrap_u64, IntKind.wrap_u32]; omega)) | (refine And.intro ?_ ?_; focus (simp only [zl1, zl2, zl3, zl4, zl5, zl6, zl7, zl8, zl9] <;> omega)) | (refine Cnd.tt ?_ ?_; focus (first | (apply decide_eq_true; omega) | (simp only [zq1, zq2, zq3, zq4, zq5, zq6, zq7, zq8, zq9, zq10, zq11, zq12] <;> omega) | rfl)) | (refine Cnd.ff ?_ ?_; focus (first | (apply decide_eq_false; omega) | (simp only [zq1, zq2, zq3, zq4, zq5, zq6, zq7, zq8, zq9, zq10, zq11, zq12] <;> omega) | rfl))))
      conv => whnf
      rw [e0]
      repeat ((conv => whnf); (first | refine Cnd.yes ?_ | refine Cnd.no ?_ | refine And.intro rfl ?_ | refine And.intro (by omega) ?_ | (refine And.intro ?_ ?_; focus (simp only [IntKind.wrap_i64, IntKind.wrap_u64, IntKind.wrap_u32]; omega)) | (refine And.intro ?_ ?_; focus (simp only [zl1, zl2, zl3, zl4, zl5, zl6, zl7, zl8, zl9] <;> omega)) | (refine Cnd.tt ?_ ?_; focus (first | (apply decide_eq_true; omega) | (simp only [zq1, zq2, zq3, zq4, zq5, zq6, zq7, zq8, zq9, zq10, zq11, zq12] <;> omega) | rfl)) | (refine Cnd.ff ?_ ?_; focus (first | (apply decide_eq_false; omega) | (simp only [zq1, zq2, zq3, zq4, zq5, zq6, zq7, zq8, zq9, zq10, zq11, zq12] <;> omega) | rfl))))
      conv => whnf
      refine ⟨[0, 1], .v (.int .i64 P.length), [.row o 61 qck (P.map qrow ++ qrow x :: R), .cells 3 [.v (.int .i64 id)]], ?_⟩
      repeat ((conv => whnf); (first | refine Cnd.yes ?_ | refine Cnd.no ?_ | refine And.intro rfl ?_ | refine And.intro (by omega) ?_ | (refine And.intro ?_ ?_; focus (simp only [IntKind.wrap_i64, IntKind.wrap_u64, IntKind.wrap_u32]; omega)) | (refine And.intro ?_ ?_; focus (simp only [zl1, zl2, zl3, zl4, zl5, zl6, zl7, zl8, zl9] <;> omega))))
      conv => whnf
      exact hK
def idxS : Vc.Spec := fun args hp _ K => ∃ (o : Bool) (id : Int) (P : List Q7) (x : Q7) (R : List (List Value)) (len : Nat), args = [.slc 0 7 0 len, .fn (.func 29) [] [.ptr 1 0 0 0]] ∧ hp = [.row o 61 qck (P.map qrow ++ qrow x :: R), .cells 3 [.v (.int .i64 id)]] ∧ P.length < len ∧ len ≤ P.length + 1 + R.length ∧ len ≤ 1000 ∧ x.id = id ∧ (∀ y ∈ P, y.id ≠ id) ∧
  K (.v (.int .i64 P.length)) [.row o 61 qck (P.map qrow ++ qrow x :: R), .cells 3 [.v (.int .i64 id)]]
theorem idx_ok : SOK Tryd.prog 28 idxS := by
  refine TOK.weaken (TOK.out (runF_eq G0_ok mixed at28.1 at28.2 pf28_eq)) fun args hp M K h => ?_
  obtain ⟨o, id, P, x, R, len, rfl, rfl, h1, h2, h3, h4, h5, h6⟩ := h
  exact idx_run M K o id P x R len h1 h2 h3 h4 h5 h6
noncomputable def specsB1 : Nat → Option Vc.Trans := tget [(28, frameT idxS)]
noncomputable def GB1 : Nat → Option Vc.Trans := tabG specsB1 (tget tab) 5
theorem GB1_ok : GOK Tryd.prog GB1 := tabG_ok (GOK.cons (frame_ok idx_ok) .nil) tab_ok 5
/-- The queue with one told apart. -/
def q1Hp (o : Bool) (n : Int) (len : Nat) (P : List Q7) (x : Q7) (R : List (List Value)) : List Ent := [cellsB o 56 [.v (.int .i64 n), .slc 1 7 0 len], .row o 61 qck (P.map qrow ++ qrow x :: R)]
theorem at_runT (M : HL) (K : SV → List Ent → HL → Prop) (n id : Int) (P : List Q7) (x : Q7) (R : List (List Value)) (len : Nat) (hl : P.length < len) (hl2 : len ≤ P.length + 1 + R.length) (hl3 : len ≤ 1000) (hx : x.id = id) (hP : ∀ y ∈ P, y.id ≠ id)
    (hK : K (.v (.int .i64 P.length)) (q1Hp true n len P x R) M) :
    runF GB1 pf19 [.ptr 0 0 0 0, .v (.int .i64 id)] (q1Hp true n len P x R) M fun v hp2 M2 => ∃ m v' hp', Wk (llen (q1Hp true n len P x R)) m [v] hp2 [v'] hp' (K v' hp' M2) := by
  repeat ((conv => whnf); (first | refine Cnd.yes ?_ | refine Cnd.no ?_ | refine And.intro rfl ?_ | refine And.intro (by omega) ?_ | (refine And.intro ?_ ?_; focus (simp only [IntKind.wrap_i64, IntKind.wrap_u64, IntKind.wrap_u32]; omega)) | (refine And.intro ?_ ?_; focus (simp only [zl1, zl2, zl3, zl4, zl5, zl6, zl7, zl8, zl9] <;> omega)) | (refine Cnd.tt ?_ ?_; focus (first | (apply decide_eq_true; omega) | (simp only [zq1, zq2, zq3, zq4, zq5, zq6, zq7, zq8, zq9, zq10, zq11, zq12] <;> omega) | rfl)) | (refine Cnd.ff ?_ ?_; focus (first | (apply decide_eq_false; omega) | (simp only [zq1, zq2, zq3, zq4, zq5, zq6, zq7, zq8, zq9, zq10, zq11, zq12] <;> omega) | rfl))))
  conv => whnf
  refine ⟨true, id, P, x, R, len, rfl, rfl, hl, hl2, hl3, hx, hP, ?_⟩
  repeat ((conv => whnf); (first | refine Cnd.yes ?_ | refine Cnd.no ?_ | refine And.intro rfl ?_ | refine And.intro (by omega) ?_ | (refine And.intro ?_ ?_; focus (simp only [IntKind.wrap_i64, IntKind.wrap_u64, IntKind.wrap_u32]; omega)) | (refine And.intro ?_ ?_; focus (simp only [zl1, zl2, zl3, zl4, zl5, zl6, zl7, zl8, zl9] <;> omega)) | (refine Cnd.tt ?_ ?_; focus (first | (apply decide_eq_true; omega) | (simp only [zq1, zq2, zq3, zq4, zq5, zq6, zq7, zq8, zq9, zq10, zq11, zq12] <;> omega) | rfl)) | (refine Cnd.ff ?_ ?_; focus (first | (apply decide_eq_false; omega) | (simp only [zq1, zq2, zq3, zq4, zq5, zq6, zq7, zq8, zq9, zq10, zq11, zq12] <;> omega) | rfl))))
  conv => whnf
  refine ⟨[0, 1], .v (.int .i64 P.length), q1Hp true n len P x R, ?_⟩
  repeat ((conv => whnf); (first | refine Cnd.yes ?_ | refine Cnd.no ?_ | refine And.intro rfl ?_ | refine And.intro (by omega) ?_ | (refine And.intro ?_ ?_; focus (simp only [IntKind.wrap_i64, IntKind.wrap_u64, IntKind.wrap_u32]; omega)) | (refine And.intro ?_ ?_; focus (simp only [zl1, zl2, zl3, zl4, zl5, zl6, zl7, zl8, zl9] <;> omega))))
  conv => whnf
  exact hK
theorem at_runF (M : HL) (K : SV → List Ent → HL → Prop) (n id : Int) (P : List Q7) (x : Q7) (R : List (List Value)) (len : Nat) (hl : P.length < len) (hl2 : len ≤ P.length + 1 + R.length) (hl3 : len ≤ 1000) (hx : x.id = id) (hP : ∀ y ∈ P, y.id ≠ id)
    (hK : K (.v (.int .i64 P.length)) (q1Hp false n len P x R) M) :
    runF GB1 pf19 [.ptr 0 0 0 0, .v (.int .i64 id)] (q1Hp false n len P x R) M fun v hp2 M2 => ∃ m v' hp', Wk (llen (q1Hp false n len P x R)) m [v] hp2 [v'] hp' (K v' hp' M2) := by
  repeat ((conv => whnf); (first | refine Cnd.yes ?_ | refine Cnd.no ?_ | refine And.intro rfl ?_ | refine And.intro (by omega) ?_ | (refine And.intro ?_ ?_; focus (simp only [IntKind.wrap_i64, IntKind.wrap_u64, IntKind.wrap_u32]; omega)) | (refine And.intro ?_ ?_; focus (simp only [zl1, zl2, zl3, zl4, zl5, zl6, zl7, zl8, zl9] <;> omega)) | (refine Cnd.tt ?_ ?_; focus (first | (apply decide_eq_true; omega) | (simp only [zq1, zq2, zq3, zq4, zq5, zq6, zq7, zq8, zq9, zq10, zq11, zq12] <;> omega) | rfl)) | (refine Cnd.ff ?_ ?_; focus (first | (apply decide_eq_false; omega) | (simp only [zq1, zq2, zq3, zq4, zq5, zq6, zq7, zq8, zq9, zq10, zq11, zq12] <;> omega) | rfl))))
  conv => whnf
  refine ⟨false, id, P, x, R, len, rfl, rfl, hl, hl2, hl3, hx, hP, ?_⟩
  repeat ((conv => whnf); (first | refine Cnd.yes ?_ | refine Cnd.no ?_ | refine And.intro rfl ?_ | refine And.intro (by omega) ?_ | (refine And.intro ?_ ?_; focus (simp only [IntKind.wrap_i64, IntKind.wrap_u64, IntKind.wrap_u32]; omega)) | (refine And.intro ?_ ?_; focus (simp only [zl1, zl2, zl3, zl4, zl5, zl6, zl7, zl8, zl9] <;> omega)) | (refine Cnd.tt ?_ ?_; focus (first | (apply decide_eq_true; omega) | (simp only [zq1, zq2, zq3, zq4, zq5, zq6, zq7, zq8, zq9, zq10, zq11, zq12] <;> omega) | rfl)) | (refine Cnd.ff ?_ ?_; focus (first | (apply decide_eq_false; omega) | (simp only [zq1, zq2, zq3, zq4, zq5, zq6, zq7, zq8, zq9, zq10, zq11, zq12] <;> omega) | rfl))))
  conv => whnf
  refine ⟨[0, 1], .v (.int .i64 P.length), q1Hp false n len P x R, ?_⟩
  repeat ((conv => whnf); (first | refine Cnd.yes ?_ | refine Cnd.no ?_ | refine And.intro rfl ?_ | refine And.intro (by omega) ?_ | (refine And.intro ?_ ?_; focus (simp only [IntKind.wrap_i64, IntKind.wrap_u64, IntKind.wrap_u32]; omega)) | (refine And.intro ?_ ?_; focus (simp only [zl1, zl2, zl3, zl4, zl5, zl6, zl7, zl8, zl9] <;> omega))))
  conv => whnf
  exact hK
def atS : Vc.Spec := fun args hp _ K => ∃ (o : Bool) (n id : Int) (P : List Q7) (x : Q7) (R : List (List Value)) (len : Nat), args = [.ptr 0 0 0 0, .v (.int .i64 id)] ∧ hp = q1Hp o n len P x R ∧ P.length < len ∧ len ≤ P.length + 1 + R.length ∧ len ≤ 1000 ∧ x.id = id ∧ (∀ y ∈ P, y.id ≠ id) ∧
  K (.v (.int .i64 P.length)) (q1Hp o n len P x R)
theorem at_ok : SOK Tryd.prog 19 atS := by
  refine TOK.weaken (TOK.out (runF_eq GB1_ok mixed at19.1 at19.2 pf19_eq)) fun args hp M K h => ?_
  obtain ⟨o, n, id, P, x, R, len, rfl, rfl, h1, h2, h3, h4, h5, h6⟩ := h
  cases o with
  | true => exact at_runT M K n id P x R len h1 h2 h3 h4 h5 h6
  | false => exact at_runF M K n id P x R len h1 h2 h3 h4 h5 h6
noncomputable def specsB2 : Nat → Option Vc.Trans := tget [(19, frameT atS)]
noncomputable def GB2 : Nat → Option Vc.Trans := tabG specsB2 (tget tab) 5
theorem GB2_ok : GOK Tryd.prog GB2 := tabG_ok (GOK.cons (frame_ok at_ok) .nil) tab_ok 5
def lastId : List Q7 → Int := fun L => (L.getLast?.map (·.id)).getD (-1)
theorem last_cell {L : List Q7} (hl : 0 < L.length) (post : List (List Value)) : toI (cellAt (L.map qrow ++ post) (0 + ((L.length : Int) - 1).toNat) 0) = lastId L := by
  have h1 : 0 + ((L.length : Int) - 1).toNat = L.length - 1 := by omega
  rw [h1, cellL L _ (by omega), lastId, List.getLast?_eq_getElem?]
  simp [List.getD, qrow, toI, List.getElem?_eq_getElem (show L.length - 1 < L.length by omega)]
theorem add_run (M : HL) (K : SV → List Ent → HL → Prop) (n id : Int) (st : Bool) (L : List Q7) (post : List (List Value)) (hl : L.length < n) (hn : n ≤ 64) (hid : lastId L < id)
    (hK : K (.v (.bool true)) [.cells 56 [.v (.int .i64 n), .slc 2 7 0 (L.length + 1)], .gone, .row true 61 qck ((L ++ [Q7.mk id st false false 0 0 0]).map qrow)] M) :
    runF G0 pf9 [.ptr 0 0 0 0, .v (.int .i64 id), .v (.bool st)] (qHp true n L post) M fun v hp2 M2 => ∃ m v' hp', Wk (llen (qHp true n L post)) m [v] hp2 [v'] hp' (K v' hp' M2) := by
  have hlc : L.length ≤ (L.map qrow ++ post).length := by simp
  have hrow : List.take L.length (List.drop 0 (L.map qrow ++ post)) ++ [qrow (Q7.mk id st false false 0 0 0)] = (L ++ [Q7.mk id st false false 0 0 0]).map qrow := by
    rw [List.drop_zero, List.take_append_of_le_length (by simp), List.take_of_length_le (by simp), List.map_append]
    rfl
  by_cases h0 : L.length = 0
  · repeat ((conv => whnf); (first | refine Cnd.yes ?_ | refine Cnd.no ?_ | refine And.intro rfl ?_ | refine And.intro (by omega) ?_ | (refine And.intro ?_ ?_; focus (simp only [IntKind.wrap_i64, IntKind.wrap_u64, IntKind.wrap_u32]; omega)) | (refine And.intro ?_ ?_; focus (simp only [zl1, zl2, zl3, zl4, zl5, zl6, zl7, zl8, zl9] <;> omega)) | (refine Cnd.tt ?_ ?_; focus (first | (apply decide_eq_true; omega) | (simp only [zq1, zq2, zq3, zq4, zq5, zq6, zq7, zq8, zq9, zq10, zq11, zq12] <;> omega) | rfl)) | (refine Cnd.ff ?_ ?_; focus (first | (apply decide_eq_false; omega) | (simp only [zq1, zq2, zq3, zq4, zq5, zq6, zq7, zq8, zq9, zq10, zq11, zq12] <;> omega) | rfl))))
    conv => whnf
    refine ⟨[0, 1, 3], .v (.bool true), [.cells 56 [.v (.int .i64 n), .slc 2 7 0 (L.length + 1)], .gone, .row true 61 qck ((L ++ [Q7.mk id st false false 0 0 0]).map qrow)], ?_⟩
    repeat ((conv => whnf); (first | refine Cnd.yes ?_ | refine Cnd.no ?_ | refine And.intro rfl ?_ | refine And.intro (by omega) ?_ | (refine And.intro ?_ ?_; focus (simp only [IntKind.wrap_i64, IntKind.wrap_u64, IntKind.wrap_u32]; omega)) | (refine And.intro ?_ ?_; focus (simp only [zl1, zl2, zl3, zl4, zl5, zl6, zl7, zl8, zl9] <;> omega))))
    conv => whnf
    refine ⟨hrow, ?_⟩
    repeat ((conv => whnf); (first | refine Cnd.yes ?_ | refine Cnd.no ?_ | refine And.intro rfl ?_ | refine And.intro (by omega) ?_ | (refine And.intro ?_ ?_; focus (simp only [IntKind.wrap_i64, IntKind.wrap_u64, IntKind.wrap_u32]; omega)) | (refine And.intro ?_ ?_; focus (simp only [zl1, zl2, zl3, zl4, zl5, zl6, zl7, zl8, zl9] <;> omega))))
    conv => whnf
    exact hK
  · have el := last_cell (L := L) (by omega) post
    have e1 : IntKind.i64.wrap ((L.length : Int) - 1) = (L.length : Int) - 1 := by rw [IntKind.wrap_i64]; omega
    repeat ((conv => whnf); (first | refine Cnd.yes ?_ | refine Cnd.no ?_ | refine And.intro rfl ?_ | refine And.intro (by omega) ?_ | (refine And.intro ?_ ?_; focus (simp only [IntKind.wrap_i64, IntKind.wrap_u64, IntKind.wrap_u32]; omega)) | (refine And.intro ?_ ?_; focus (simp only [zl1, zl2, zl3, zl4, zl5, zl6, zl7, zl8, zl9] <;> omega)) | (refine Cnd.tt ?_ ?_; focus (first | (apply decide_eq_true; omega) | (simp only [zq1, zq2, zq3, zq4, zq5, zq6, zq7, zq8, zq9, zq10, zq11, zq12] <;> omega) | rfl)) | (refine Cnd.ff ?_ ?_; focus (first | (apply decide_eq_false; omega) | (simp only [zq1, zq2, zq3, zq4, zq5, zq6, zq7, zq8, zq9, zq10, zq11, zq12] <;> omega) | rfl))))
    conv => whnf
    rw [e1]
    repeat ((conv => whnf); (first | refine Cnd.yes ?_ | refine Cnd.no ?_ | refine And.intro rfl ?_ | refine And.intro (by omega) ?_ | (refine And.intro ?_ ?_; focus (simp only [IntKind.wrap_i64, IntKind.wrap_u64, IntKind.wrap_u32]; omega)) | (refine And.intro ?_ ?_; focus (simp only [zl1, zl2, zl3, zl4, zl5, zl6, zl7, zl8, zl9] <;> omega)) | (refine Cnd.tt ?_ ?_; focus (first | (apply decide_eq_true; omega) | (simp only [zq1, zq2, zq3, zq4, zq5, zq6, zq7, zq8, zq9, zq10, zq11, zq12] <;> omega) | rfl)) | (refine Cnd.ff ?_ ?_; focus (first | (apply decide_eq_false; omega) | (simp only [zq1, zq2, zq3, zq4, zq5, zq6, zq7, zq8, zq9, zq10, zq11, zq12] <;> omega) | rfl))))
    conv => whnf
    rw [el]
    repeat ((conv => whnf); (first | refine Cnd.yes ?_ | refine Cnd.no ?_ | refine And.intro rfl ?_ | refine And.intro (by omega) ?_ | (refine And.intro ?_ ?_; focus (simp only [IntKind.wrap_i64, IntKind.wrap_u64, IntKind.wrap_u32]; omega)) | (refine And.intro ?_ ?_; focus (simp only [zl1, zl2, zl3, zl4, zl5, zl6, zl7, zl8, zl9] <;> omega)) | (refine Cnd.tt ?_ ?_; focus (first | (apply decide_eq_true; omega) | (simp only [zq1, zq2, zq3, zq4, zq5, zq6, zq7, zq8, zq9, zq10, zq11, zq12] <;> omega) | rfl)) | (refine Cnd.ff ?_ ?_; focus (first | (apply decide_eq_false; omega) | (simp only [zq1, zq2, zq3, zq4, zq5, zq6, zq7, zq8, zq9, zq10, zq11, zq12] <;> omega) | rfl))))
    conv => whnf
    refine ⟨[0, 1, 3], .v (.bool true), [.cells 56 [.v (.int .i64 n), .slc 2 7 0 (L.length + 1)], .gone, .row true 61 qck ((L ++ [Q7.mk id st false false 0 0 0]).map qrow)], ?_⟩
    repeat ((conv => whnf); (first | refine Cnd.yes ?_ | refine Cnd.no ?_ | refine And.intro rfl ?_ | refine And.intro (by omega) ?_ | (refine And.intro ?_ ?_; focus (simp only [IntKind.wrap_i64, IntKind.wrap_u64, IntKind.wrap_u32]; omega)) | (refine And.intro ?_ ?_; focus (simp only [zl1, zl2, zl3, zl4, zl5, zl6, zl7, zl8, zl9] <;> omega))))
    conv => whnf
    refine ⟨hrow, ?_⟩
    repeat ((conv => whnf); (first | refine Cnd.yes ?_ | refine Cnd.no ?_ | refine And.intro rfl ?_ | refine And.intro (by omega) ?_ | (refine And.intro ?_ ?_; focus (simp only [IntKind.wrap_i64, IntKind.wrap_u64, IntKind.wrap_u32]; omega)) | (refine And.intro ?_ ?_; focus (simp only [zl1, zl2, zl3, zl4, zl5, zl6, zl7, zl8, zl9] <;> omega))))
    conv => whnf
    exact hK
def addS : Vc.Spec := fun args hp _ K => ∃ (n id : Int) (st : Bool) (L : List Q7) (post : List (List Value)), args = [.ptr 0 0 0 0, .v (.int .i64 id), .v (.bool st)] ∧ hp = qHp true n L post ∧ L.length < n ∧ n ≤ 64 ∧ lastId L < id ∧
  K (.v (.bool true)) [.cells 56 [.v (.int .i64 n), .slc 2 7 0 (L.length + 1)], .gone, .row true 61 qck ((L ++ [Q7.mk id st false false 0 0 0]).map qrow)]
theorem add_ok : SOK Tryd.prog 9 addS := by
  refine TOK.weaken (TOK.out (runF_eq G0_ok mixed at9.1 at9.2 pf9_eq)) fun args hp M K h => ?_
  obtain ⟨n, id, st, L, post, rfl, rfl, h1, h2, h3, h4⟩ := h
  exact add_run M K n id st L post h1 h2 h3 h4
theorem place_run (M : HL) (K : SV → List Ent → HL → Prop) (n id ad sz : Int) (P : List Q7) (x : Q7) (R : List (List Value)) (len : Nat) (hl : P.length < len) (hl2 : len ≤ P.length + 1 + R.length) (hl3 : len ≤ 1000) (hx : x.id = id) (hP : ∀ y ∈ P, y.id ≠ id)
    (hp : x.pl = false) (hs : sz = 1 ∨ sz = 2 ∨ sz = 4) (h0 : 0 ≤ ad) (h1 : ad < 4294967296) (hm : ad % sz = 0)
    (hK : K (.v (.bool true)) (q1Hp true n len P { x with pl := true, ad := ad, sz := sz } R) M) :
    runF GB2 pf10 [.ptr 0 0 0 0, .v (.int .i64 id), .v (.int .u32 ad), .v (.int .i64 sz)] (q1Hp true n len P x R) M K := by
  have c2 := fun k => cellM (P.map qrow) (qrow x) R (j := 0 + (P.length : Int).toNat) k (by simp)
  have em : (ad.tmod (IntKind.u32.wrap sz)) = 0 := by
    rw [show IntKind.u32.wrap sz = sz by rw [IntKind.wrap_u32]; omega, Int.tmod_eq_emod_of_nonneg h0]
    exact hm
  have hll : (P.map qrow ++ qrow x :: R).length = P.length + 1 + R.length := by simp; omega
  obtain ⟨xid, st, pl, kn, xad, xsz, v⟩ := x
  simp only at hx hp
  subst hx hp
  repeat ((conv => whnf); (first | refine Cnd.yes ?_ | refine Cnd.no ?_ | refine And.intro rfl ?_ | refine And.intro (by omega) ?_ | (refine And.intro ?_ ?_; focus (simp only [IntKind.wrap_i64, IntKind.wrap_u64, IntKind.wrap_u32]; omega)) | (refine And.intro ?_ ?_; focus (simp only [zl1, zl2, zl3, zl4, zl5, zl6, zl7, zl8, zl9] <;> omega)) | (refine Cnd.tt ?_ ?_; focus (first | (apply decide_eq_true; omega) | (simp only [zq1, zq2, zq3, zq4, zq5, zq6, zq7, zq8, zq9, zq10, zq11, zq12] <;> omega) | rfl)) | (refine Cnd.ff ?_ ?_; focus (first | (apply decide_eq_false; omega) | (simp only [zq1, zq2, zq3, zq4, zq5, zq6, zq7, zq8, zq9, zq10, zq11, zq12] <;> omega) | rfl))))
  conv => whnf
  refine ⟨true, n, xid, P, ⟨xid, st, false, kn, xad, xsz, v⟩, R, len, rfl, rfl, hl, hl2, hl3, rfl, hP, ?_⟩
  rcases hs with rfl | rfl | rfl
  all_goals
    repeat ((conv => whnf); (first | refine Cnd.yes ?_ | refine Cnd.no ?_ | refine And.intro rfl ?_ | refine And.intro (by omega) ?_ | (refine And.intro ?_ ?_; focus (simp only [IntKind.wrap_i64, IntKind.wrap_u64, IntKind.wrap_u32]; omega)) | (refine And.intro ?_ ?_; focus (simp only [zl1, zl2, zl3, zl4, zl5, zl6, zl7, zl8, zl9] <;> omega)) | (refine Cnd.tt ?_ ?_; focus (first | (apply decide_eq_true; omega) | (simp only [zq1, zq2, zq3, zq4, zq5, zq6, zq7, zq8, zq9, zq10, zq11, zq12] <;> omega) | rfl)) | (refine Cnd.ff ?_ ?_; focus (first | (apply decide_eq_false; omega) | (simp only [zq1, zq2, zq3, zq4, zq5, zq6, zq7, zq8, zq9, zq10, zq11, zq12] <;> omega) | rfl))))
    conv => whnf
    rw [c2 (0 + 2)]
    repeat ((conv => whnf); (first | refine Cnd.yes ?_ | refine Cnd.no ?_ | refine And.intro rfl ?_ | refine And.intro (by omega) ?_ | (refine And.intro ?_ ?_; focus (simp only [IntKind.wrap_i64, IntKind.wrap_u64, IntKind.wrap_u32]; omega)) | (refine And.intro ?_ ?_; focus (simp only [zl1, zl2, zl3, zl4, zl5, zl6, zl7, zl8, zl9] <;> omega)) | (refine Cnd.tt ?_ ?_; focus (first | (apply decide_eq_true; omega) | (simp only [zq1, zq2, zq3, zq4, zq5, zq6, zq7, zq8, zq9, zq10, zq11, zq12] <;> omega) | rfl)) | (refine Cnd.ff ?_ ?_; focus (first | (apply decide_eq_false; omega) | (simp only [zq1, zq2, zq3, zq4, zq5, zq6, zq7, zq8, zq9, zq10, zq11, zq12] <;> omega) | rfl))))
    conv => whnf
    refine Kat hK ?_
    rw [setM _ _ _ _ _ (by simp), setM _ _ _ _ _ (by simp), setM _ _ _ _ _ (by simp)]
    rfl
def placeS : Vc.Spec := fun args hp _ K => ∃ (n id ad sz : Int) (P : List Q7) (x : Q7) (R : List (List Value)) (len : Nat), args = [.ptr 0 0 0 0, .v (.int .i64 id), .v (.int .u32 ad), .v (.int .i64 sz)] ∧ hp = q1Hp true n len P x R ∧ P.length < len ∧ len ≤ P.length + 1 + R.length ∧ len ≤ 1000 ∧ x.id = id ∧ (∀ y ∈ P, y.id ≠ id) ∧
  x.pl = false ∧ (sz = 1 ∨ sz = 2 ∨ sz = 4) ∧ 0 ≤ ad ∧ ad < 4294967296 ∧ ad % sz = 0 ∧ K (.v (.bool true)) (q1Hp true n len P { x with pl := true, ad := ad, sz := sz } R)
theorem place_ok : SOK Tryd.prog 10 placeS := by
  refine TOK.weaken (runF_eq GB2_ok mixed at10.1 at10.2 pf10_eq) fun args hp M K h => ?_
  obtain ⟨n, id, ad, sz, P, x, R, len, rfl, rfl, h1, h2, h3, h4, h5, h6, h7, h8, h9, h10, h11⟩ := h
  exact place_run M K n id ad sz P x R len h1 h2 h3 h4 h5 h6 h7 h8 h9 h10 h11
theorem value_run (M : HL) (K : SV → List Ent → HL → Prop) (n id v : Int) (P : List Q7) (x : Q7) (R : List (List Value)) (len : Nat) (hl : P.length < len) (hl2 : len ≤ P.length + 1 + R.length) (hl3 : len ≤ 1000) (hx : x.id = id) (hP : ∀ y ∈ P, y.id ≠ id)
    (hs : x.st = true) (hp : x.pl = true)
    (hK : K (.v (.bool true)) (q1Hp true n len P { x with kn := true, v := v } R) M) :
    runF GB2 pf11 [.ptr 0 0 0 0, .v (.int .i64 id), .v (.int .u32 v)] (q1Hp true n len P x R) M K := by
  have c2 := fun k => cellM (P.map qrow) (qrow x) R (j := 0 + (P.length : Int).toNat) k (by simp)
  have hll : (P.map qrow ++ qrow x :: R).length = P.length + 1 + R.length := by simp; omega
  obtain ⟨xid, st, pl, kn, xad, xsz, xv⟩ := x
  simp only at hx hp hs
  subst hx hp hs
  repeat ((conv => whnf); (first | refine Cnd.yes ?_ | refine Cnd.no ?_ | refine And.intro rfl ?_ | refine And.intro (by omega) ?_ | (refine And.intro ?_ ?_; focus (simp only [IntKind.wrap_i64, IntKind.wrap_u64, IntKind.wrap_u32]; omega)) | (refine And.intro ?_ ?_; focus (simp only [zl1, zl2, zl3, zl4, zl5, zl6, zl7, zl8, zl9] <;> omega)) | (refine Cnd.tt ?_ ?_; focus (first | (apply decide_eq_true; omega) | (simp only [zq1, zq2, zq3, zq4, zq5, zq6, zq7, zq8, zq9, zq10, zq11, zq12] <;> omega) | rfl)) | (refine Cnd.ff ?_ ?_; focus (first | (apply decide_eq_false; omega) | (simp only [zq1, zq2, zq3, zq4, zq5, zq6, zq7, zq8, zq9, zq10, zq11, zq12] <;> omega) | rfl))))
  conv => whnf
  refine ⟨true, n, xid, P, ⟨xid, true, true, kn, xad, xsz, xv⟩, R, len, rfl, rfl, hl, hl2, hl3, rfl, hP, ?_⟩
  repeat ((conv => whnf); (first | refine Cnd.yes ?_ | refine Cnd.no ?_ | refine And.intro rfl ?_ | refine And.intro (by omega) ?_ | (refine And.intro ?_ ?_; focus (simp only [IntKind.wrap_i64, IntKind.wrap_u64, IntKind.wrap_u32]; omega)) | (refine And.intro ?_ ?_; focus (simp only [zl1, zl2, zl3, zl4, zl5, zl6, zl7, zl8, zl9] <;> omega)) | (refine Cnd.tt ?_ ?_; focus (first | (apply decide_eq_true; omega) | (simp only [zq1, zq2, zq3, zq4, zq5, zq6, zq7, zq8, zq9, zq10, zq11, zq12] <;> omega) | rfl)) | (refine Cnd.ff ?_ ?_; focus (first | (apply decide_eq_false; omega) | (simp only [zq1, zq2, zq3, zq4, zq5, zq6, zq7, zq8, zq9, zq10, zq11, zq12] <;> omega) | rfl))))
  conv => whnf
  rw [c2 (0 + 1)]
  repeat ((conv => whnf); (first | refine Cnd.yes ?_ | refine Cnd.no ?_ | refine And.intro rfl ?_ | refine And.intro (by omega) ?_ | (refine And.intro ?_ ?_; focus (simp only [IntKind.wrap_i64, IntKind.wrap_u64, IntKind.wrap_u32]; omega)) | (refine And.intro ?_ ?_; focus (simp only [zl1, zl2, zl3, zl4, zl5, zl6, zl7, zl8, zl9] <;> omega)) | (refine Cnd.tt ?_ ?_; focus (first | (apply decide_eq_true; omega) | (simp only [zq1, zq2, zq3, zq4, zq5, zq6, zq7, zq8, zq9, zq10, zq11, zq12] <;> omega) | rfl)) | (refine Cnd.ff ?_ ?_; focus (first | (apply decide_eq_false; omega) | (simp only [zq1, zq2, zq3, zq4, zq5, zq6, zq7, zq8, zq9, zq10, zq11, zq12] <;> omega) | rfl))))
  conv => whnf
  rw [c2 (0 + 2)]
  repeat ((conv => whnf); (first | refine Cnd.yes ?_ | refine Cnd.no ?_ | refine And.intro rfl ?_ | refine And.intro (by omega) ?_ | (refine And.intro ?_ ?_; focus (simp only [IntKind.wrap_i64, IntKind.wrap_u64, IntKind.wrap_u32]; omega)) | (refine And.intro ?_ ?_; focus (simp only [zl1, zl2, zl3, zl4, zl5, zl6, zl7, zl8, zl9] <;> omega)) | (refine Cnd.tt ?_ ?_; focus (first | (apply decide_eq_true; omega) | (simp only [zq1, zq2, zq3, zq4, zq5, zq6, zq7, zq8, zq9, zq10, zq11, zq12] <;> omega) | rfl)) | (refine Cnd.ff ?_ ?_; focus (first | (apply decide_eq_false; omega) | (simp only [zq1, zq2, zq3, zq4, zq5, zq6, zq7, zq8, zq9, zq10, zq11, zq12] <;> omega) | rfl))))
  conv => whnf
  refine Kat hK ?_
  rw [setM _ _ _ _ _ (by simp), setM _ _ _ _ _ (by simp)]
  rfl
def valueS : Vc.Spec := fun args hp _ K => ∃ (n id v : Int) (P : List Q7) (x : Q7) (R : List (List Value)) (len : Nat), args = [.ptr 0 0 0 0, .v (.int .i64 id), .v (.int .u32 v)] ∧ hp = q1Hp true n len P x R ∧ P.length < len ∧ len ≤ P.length + 1 + R.length ∧ len ≤ 1000 ∧ x.id = id ∧ (∀ y ∈ P, y.id ≠ id) ∧
  x.st = true ∧ x.pl = true ∧ K (.v (.bool true)) (q1Hp true n len P { x with kn := true, v := v } R)
theorem value_ok : SOK Tryd.prog 11 valueS := by
  refine TOK.weaken (runF_eq GB2_ok mixed at11.1 at11.2 pf11_eq) fun args hp M K h => ?_
  obtain ⟨n, id, v, P, x, R, len, rfl, rfl, h1, h2, h3, h4, h5, h6, h7, h8⟩ := h
  exact value_run M K n id v P x R len h1 h2 h3 h4 h5 h6 h7 h8
theorem load_run (M : HL) (K : SV → List Ent → HL → Prop) (n id : Int) (P : List Q7) (x : Q7) (R : List (List Value)) (len : Nat) (hl : P.length < len) (hl2 : len ≤ P.length + 1 + R.length) (hl3 : len ≤ 1000) (hx : x.id = id) (hP : ∀ y ∈ P, y.id ≠ id)
    (hs : x.st = false) (hp : x.pl = true)
    (hK : K (.v (.int .i64 P.length)) (q1Hp true n len P x R) M) :
    runF GB2 pf21 [.ptr 0 0 0 0, .v (.int .i64 id)] (q1Hp true n len P x R) M K := by
  have c2 := fun k => cellM (P.map qrow) (qrow x) R (j := 0 + (P.length : Int).toNat) k (by simp)
  have hll : (P.map qrow ++ qrow x :: R).length = P.length + 1 + R.length := by simp; omega
  obtain ⟨xid, st, pl, kn, xad, xsz, xv⟩ := x
  simp only at hx hp hs
  subst hx hp hs
  repeat ((conv => whnf); (first | refine Cnd.yes ?_ | refine Cnd.no ?_ | refine And.intro rfl ?_ | refine And.intro (by omega) ?_ | (refine And.intro ?_ ?_; focus (simp only [IntKind.wrap_i64, IntKind.wrap_u64, IntKind.wrap_u32]; omega)) | (refine And.intro ?_ ?_; focus (simp only [zl1, zl2, zl3, zl4, zl5, zl6, zl7, zl8, zl9] <;> omega)) | (refine Cnd.tt ?_ ?_; focus (first | (apply decide_eq_true; omega) | (simp only [zq1, zq2, zq3, zq4, zq5, zq6, zq7, zq8, zq9, zq10, zq11, zq12] <;> omega) | rfl)) | (refine Cnd.ff ?_ ?_; focus (first | (apply decide_eq_false; omega) | (simp only [zq1, zq2, zq3, zq4, zq5, zq6, zq7, zq8, zq9, zq10, zq11, zq12] <;> omega) | rfl))))
  conv => whnf
  refine ⟨true, n, xid, P, ⟨xid, false, true, kn, xad, xsz, xv⟩, R, len, rfl, rfl, hl, hl2, hl3, rfl, hP, ?_⟩
  repeat ((conv => whnf); (first | refine Cnd.yes ?_ | refine Cnd.no ?_ | refine And.intro rfl ?_ | refine And.intro (by omega) ?_ | (refine And.intro ?_ ?_; focus (simp only [IntKind.wrap_i64, IntKind.wrap_u64, IntKind.wrap_u32]; omega)) | (refine And.intro ?_ ?_; focus (simp only [zl1, zl2, zl3, zl4, zl5, zl6, zl7, zl8, zl9] <;> omega)) | (refine Cnd.tt ?_ ?_; focus (first | (apply decide_eq_true; omega) | (simp only [zq1, zq2, zq3, zq4, zq5, zq6, zq7, zq8, zq9, zq10, zq11, zq12] <;> omega) | rfl)) | (refine Cnd.ff ?_ ?_; focus (first | (apply decide_eq_false; omega) | (simp only [zq1, zq2, zq3, zq4, zq5, zq6, zq7, zq8, zq9, zq10, zq11, zq12] <;> omega) | rfl))))
  conv => whnf
  rw [c2 (0 + 1)]
  repeat ((conv => whnf); (first | refine Cnd.yes ?_ | refine Cnd.no ?_ | refine And.intro rfl ?_ | refine And.intro (by omega) ?_ | (refine And.intro ?_ ?_; focus (simp only [IntKind.wrap_i64, IntKind.wrap_u64, IntKind.wrap_u32]; omega)) | (refine And.intro ?_ ?_; focus (simp only [zl1, zl2, zl3, zl4, zl5, zl6, zl7, zl8, zl9] <;> omega)) | (refine Cnd.tt ?_ ?_; focus (first | (apply decide_eq_true; omega) | (simp only [zq1, zq2, zq3, zq4, zq5, zq6, zq7, zq8, zq9, zq10, zq11, zq12] <;> omega) | rfl)) | (refine Cnd.ff ?_ ?_; focus (first | (apply decide_eq_false; omega) | (simp only [zq1, zq2, zq3, zq4, zq5, zq6, zq7, zq8, zq9, zq10, zq11, zq12] <;> omega) | rfl))))
  conv => whnf
  rw [c2 (0 + 2)]
  repeat ((conv => whnf); (first | refine Cnd.yes ?_ | refine Cnd.no ?_ | refine And.intro rfl ?_ | refine And.intro (by omega) ?_ | (refine And.intro ?_ ?_; focus (simp only [IntKind.wrap_i64, IntKind.wrap_u64, IntKind.wrap_u32]; omega)) | (refine And.intro ?_ ?_; focus (simp only [zl1, zl2, zl3, zl4, zl5, zl6, zl7, zl8, zl9] <;> omega)) | (refine Cnd.tt ?_ ?_; focus (first | (apply decide_eq_true; omega) | (simp only [zq1, zq2, zq3, zq4, zq5, zq6, zq7, zq8, zq9, zq10, zq11, zq12] <;> omega) | rfl)) | (refine Cnd.ff ?_ ?_; focus (first | (apply decide_eq_false; omega) | (simp only [zq1, zq2, zq3, zq4, zq5, zq6, zq7, zq8, zq9, zq10, zq11, zq12] <;> omega) | rfl))))
  conv => whnf
  exact hK
def loadS : Vc.Spec := fun args hp _ K => ∃ (n id : Int) (P : List Q7) (x : Q7) (R : List (List Value)) (len : Nat), args = [.ptr 0 0 0 0, .v (.int .i64 id)] ∧ hp = q1Hp true n len P x R ∧ P.length < len ∧ len ≤ P.length + 1 + R.length ∧ len ≤ 1000 ∧ x.id = id ∧ (∀ y ∈ P, y.id ≠ id) ∧
  x.st = false ∧ x.pl = true ∧ K (.v (.int .i64 P.length)) (q1Hp true n len P x R)
theorem load_ok : SOK Tryd.prog 21 loadS := by
  refine TOK.weaken (runF_eq GB2_ok mixed at21.1 at21.2 pf21_eq) fun args hp M K h => ?_
  obtain ⟨n, id, P, x, R, len, rfl, rfl, h1, h2, h3, h4, h5, h6, h7, h8⟩ := h
  exact load_run M K n id P x R len h1 h2 h3 h4 h5 h6 h7 h8
noncomputable def specsB3 : Nat → Option Vc.Trans := tget [(21, frameT loadS)]
noncomputable def GB3 : Nat → Option Vc.Trans := tabG specsB3 (tget tab) 5
theorem GB3_ok : GOK Tryd.prog GB3 := tabG_ok (GOK.cons (frame_ok load_ok) .nil) tab_ok 5
theorem got_run (M : HL) (K : SV → List Ent → HL → Prop) (n id at_ : Int) (P : List Q7) (x : Q7) (R : List (List Value)) (len : Nat) (hl : P.length < len) (hl2 : len ≤ P.length + 1 + R.length) (hl3 : len ≤ 1000) (hx : x.id = id) (hP : ∀ y ∈ P, y.id ≠ id)
    (hs : x.st = false) (hp : x.pl = true)
    (hK : K (.v (.bool true)) (q1Hp true n len P { x with kn := true } R) M) :
    runF GB3 pf15 [.ptr 0 0 0 0, .v (.int .i64 id), .v (.int .i64 at_)] (q1Hp true n len P x R) M K := by
  have hll : (P.map qrow ++ qrow x :: R).length = P.length + 1 + R.length := by simp; omega
  repeat ((conv => whnf); (first | refine Cnd.yes ?_ | refine Cnd.no ?_ | refine And.intro rfl ?_ | refine And.intro (by omega) ?_ | (refine And.intro ?_ ?_; focus (simp only [IntKind.wrap_i64, IntKind.wrap_u64, IntKind.wrap_u32]; omega)) | (refine And.intro ?_ ?_; focus (simp only [zl1, zl2, zl3, zl4, zl5, zl6, zl7, zl8, zl9] <;> omega)) | (refine Cnd.tt ?_ ?_; focus (first | (apply decide_eq_true; omega) | (simp only [zq1, zq2, zq3, zq4, zq5, zq6, zq7, zq8, zq9, zq10, zq11, zq12] <;> omega) | rfl)) | (refine Cnd.ff ?_ ?_; focus (first | (apply decide_eq_false; omega) | (simp only [zq1, zq2, zq3, zq4, zq5, zq6, zq7, zq8, zq9, zq10, zq11, zq12] <;> omega) | rfl))))
  conv => whnf
  refine ⟨n, id, P, x, R, len, rfl, rfl, hl, hl2, hl3, hx, hP, hs, hp, ?_⟩
  repeat ((conv => whnf); (first | refine Cnd.yes ?_ | refine Cnd.no ?_ | refine And.intro rfl ?_ | refine And.intro (by omega) ?_ | (refine And.intro ?_ ?_; focus (simp only [IntKind.wrap_i64, IntKind.wrap_u64, IntKind.wrap_u32]; omega)) | (refine And.intro ?_ ?_; focus (simp only [zl1, zl2, zl3, zl4, zl5, zl6, zl7, zl8, zl9] <;> omega)) | (refine Cnd.tt ?_ ?_; focus (first | (apply decide_eq_true; omega) | (simp only [zq1, zq2, zq3, zq4, zq5, zq6, zq7, zq8, zq9, zq10, zq11, zq12] <;> omega) | rfl)) | (refine Cnd.ff ?_ ?_; focus (first | (apply decide_eq_false; omega) | (simp only [zq1, zq2, zq3, zq4, zq5, zq6, zq7, zq8, zq9, zq10, zq11, zq12] <;> omega) | rfl))))
  conv => whnf
  refine Kat hK ?_
  rw [setM _ _ _ _ _ (by simp)]
  rfl
def gotS : Vc.Spec := fun args hp _ K => ∃ (n id at_ : Int) (P : List Q7) (x : Q7) (R : List (List Value)) (len : Nat), args = [.ptr 0 0 0 0, .v (.int .i64 id), .v (.int .i64 at_)] ∧ hp = q1Hp true n len P x R ∧ P.length < len ∧ len ≤ P.length + 1 + R.length ∧ len ≤ 1000 ∧ x.id = id ∧ (∀ y ∈ P, y.id ≠ id) ∧
  x.st = false ∧ x.pl = true ∧ K (.v (.bool true)) (q1Hp true n len P { x with kn := true } R)
theorem got_ok : SOK Tryd.prog 15 gotS := by
  refine TOK.weaken (runF_eq GB3_ok mixed at15.1 at15.2 pf15_eq) fun args hp M K h => ?_
  obtain ⟨n, id, a, P, x, R, len, rfl, rfl, h1, h2, h3, h4, h5, h6, h7, h8⟩ := h
  exact got_run M K n id a P x R len h1 h2 h3 h4 h5 h6 h7 h8
end Go.Proofs.YtjbknaniihkcnaaDoor
