/-
  The map: New, Undo, All; the lists: Ints, Sorted; walked, with their contracts.
-/
import Derived.Test.YtlbjheknhoigpaaDoorCb
namespace Go.Proofs.YtlbjheknhoigpaaDoor
open Go Go.Vc
set_option maxRecDepth 100000
set_option linter.unusedSimpArgs false
set_option linter.unusedVariables false
def rng (a k : Nat) : List Int := (List.range k).map fun j => ((a + j : Nat) : Int)
theorem rng_len (a k : Nat) : (rng a k).length = k := by simp [rng]
theorem rng_succ (a k : Nat) : rng a (k + 1) = rng a k ++ [((a + k : Nat) : Int)] := by simp [rng, List.range_succ]
theorem happ2 (l : List Int) (x : Int) (n : Nat) (h : l.length = n) : List.take n (List.drop 0 (List.map irow l)) ++ List.take 1 (List.drop 0 [[Value.int IntKind.i64 x]]) = List.map irow (l ++ [x]) := by
  subst h
  exact happ l x
def nHp (n : Int) (a b : Nat) : List Ent := [.cells 52 [.v (.int .i64 n), .slc 1 1 0 a, .slc 2 1 0 b], .row true 3 [.int .i64] ((rng 0 a).map irow), .row true 3 [.int .i64] ((rng 32 b).map irow)]
theorem new_run (M : HL) (K : SV → List Ent → HL → Prop) (n : Nat) (h1 : 33 ≤ n) (h2 : n ≤ 256) (hK : K (.tup [.ptr 0 0 0 0, .v .nilIface]) (nHp n 32 (n - 32)) M) :
    runF G2 pf8 [.v (.int .i64 n)] [] M fun v hp2 M2 => ∃ m v' hp', Wk (llen ([] : List Ent)) m [v] hp2 [v'] hp' (K v' hp' M2) := by
  repeat ((conv => whnf); (first | refine Cnd.yes ?_ | refine Cnd.no ?_ | refine And.intro rfl ?_ | refine And.intro (by omega) ?_ | (refine And.intro ?_ ?_; focus (simp only [IntKind.wrap_i64, IntKind.wrap_u64, IntKind.wrap_u32]; omega)) | (refine And.intro ?_ ?_; focus (first | (simp only [tblOf_len, List.length_map, List.length_append, List.length_cons, List.length_nil, List.length_take, List.length_drop, List.length_replicate]; omega) | (simp only [tblOf_len, List.length_map, List.length_append, List.length_cons, List.length_nil, List.length_take, List.length_drop, List.length_replicate]; done)))))
  conv => whnf
  refine Cnd.ff (decide_eq_false (by omega)) ?_
  repeat ((conv => whnf); (first | refine Cnd.yes ?_ | refine Cnd.no ?_ | refine And.intro rfl ?_ | refine And.intro (by omega) ?_ | (refine And.intro ?_ ?_; focus (simp only [IntKind.wrap_i64, IntKind.wrap_u64, IntKind.wrap_u32]; omega)) | (refine And.intro ?_ ?_; focus (first | (simp only [tblOf_len, List.length_map, List.length_append, List.length_cons, List.length_nil, List.length_take, List.length_drop, List.length_replicate]; omega) | (simp only [tblOf_len, List.length_map, List.length_append, List.length_cons, List.length_nil, List.length_take, List.length_drop, List.length_replicate]; done)))))
  conv => whnf
  refine Cnd.ff (decide_eq_false (by omega)) ?_
  repeat ((conv => whnf); (first | refine Cnd.yes ?_ | refine Cnd.no ?_ | refine And.intro rfl ?_ | refine And.intro (by omega) ?_ | (refine And.intro ?_ ?_; focus (simp only [IntKind.wrap_i64, IntKind.wrap_u64, IntKind.wrap_u32]; omega)) | (refine And.intro ?_ ?_; focus (first | (simp only [tblOf_len, List.length_map, List.length_append, List.length_cons, List.length_nil, List.length_take, List.length_drop, List.length_replicate]; omega) | (simp only [tblOf_len, List.length_map, List.length_append, List.length_cons, List.length_nil, List.length_take, List.length_drop, List.length_replicate]; done)))))
  conv => whnf
  refine ⟨fun cnt tm hp M' => ∃ i : Nat, i ≤ n ∧ cnt = n - i ∧ M' = M ∧ tmkK 44 0 [(3, .v .nilIface), (4, .ptr 0 0 0 0), (16, .v (.int .i64 n)), (17, .v (.int .i64 i))] (fun l => tm = l) ∧ hp = nHp n (min i 32) (i - 32),
    ⟨n, [0, 1, 2], tmk 44 0 [(3, .v .nilIface), (4, .ptr 0 0 0 0), (16, .v (.int .i64 n)), (17, .v (.int .i64 (0 : Nat)))], nHp n 0 0, ?_⟩, ?_⟩
  · repeat ((conv => whnf); (first | refine Cnd.yes ?_ | refine Cnd.no ?_ | refine And.intro rfl ?_ | refine And.intro (by omega) ?_ | (refine And.intro ?_ ?_; focus (simp only [IntKind.wrap_i64, IntKind.wrap_u64, IntKind.wrap_u32]; omega)) | (refine And.intro ?_ ?_; focus (first | (simp only [tblOf_len, List.length_map, List.length_append, List.length_cons, List.length_nil, List.length_take, List.length_drop, List.length_replicate]; omega) | (simp only [tblOf_len, List.length_map, List.length_append, List.length_cons, List.length_nil, List.length_take, List.length_drop, List.length_replicate]; done)))))
    conv => whnf
    exact ⟨0, by omega, by omega, rfl, (tmkK_eq _ _ _ _).mpr rfl, rfl⟩
  · rintro cnt tm hp M' ⟨i, hi, rfl, rfl, htm, rfl⟩
    conv at htm => whnf
    subst htm
    repeat ((conv => whnf); (first | refine Cnd.yes ?_ | refine Cnd.no ?_ | refine And.intro rfl ?_ | refine And.intro (by omega) ?_ | (refine And.intro ?_ ?_; focus (simp only [IntKind.wrap_i64, IntKind.wrap_u64, IntKind.wrap_u32]; omega)) | (refine And.intro ?_ ?_; focus (first | (simp only [tblOf_len, List.length_map, List.length_append, List.length_cons, List.length_nil, List.length_take, List.length_drop, List.length_replicate]; omega) | (simp only [tblOf_len, List.length_map, List.length_append, List.length_cons, List.length_nil, List.length_take, List.length_drop, List.length_replicate]; done)))))
    conv => whnf
    refine Cnd.mk (fun hlt => ?_) fun hge => ?_
    · have hin : i < n := by have := of_decide_eq_true hlt; omega
      repeat ((conv => whnf); (first | refine Cnd.yes ?_ | refine Cnd.no ?_ | refine And.intro rfl ?_ | refine And.intro (by omega) ?_ | (refine And.intro ?_ ?_; focus (simp only [IntKind.wrap_i64, IntKind.wrap_u64, IntKind.wrap_u32]; omega)) | (refine And.intro ?_ ?_; focus (first | (simp only [tblOf_len, List.length_map, List.length_append, List.length_cons, List.length_nil, List.length_take, List.length_drop, List.length_replicate]; omega) | (simp only [tblOf_len, List.length_map, List.length_append, List.length_cons, List.length_nil, List.length_take, List.length_drop, List.length_replicate]; done)))))
      conv => whnf
      by_cases h32 : i < 32
      · refine Cnd.tt (decide_eq_true (by omega)) ?_
        rw [show min i 32 = i by omega, show i - 32 = 0 by omega]
        have hr := rng_len 0 i
        repeat ((conv => whnf); (first | refine Cnd.yes ?_ | refine Cnd.no ?_ | refine And.intro rfl ?_ | refine And.intro (by omega) ?_ | (refine And.intro ?_ ?_; focus (simp only [IntKind.wrap_i64, IntKind.wrap_u64, IntKind.wrap_u32]; omega)) | (refine And.intro ?_ ?_; focus (first | (simp only [tblOf_len, List.length_map, List.length_append, List.length_cons, List.length_nil, List.length_take, List.length_drop, List.length_replicate]; omega) | (simp only [tblOf_len, List.length_map, List.length_append, List.length_cons, List.length_nil, List.length_take, List.length_drop, List.length_replicate]; done)))))
        conv => whnf
        refine ⟨n - (i + 1), [0, 4, 2], tmk 44 0 [(3, .v .nilIface), (4, .ptr 0 0 0 0), (16, .v (.int .i64 n)), (17, .v (.int .i64 (i + 1 : Nat)))], nHp n (i + 1) 0, by omega, ?_⟩
        repeat ((conv => whnf); (first | refine Cnd.yes ?_ | refine Cnd.no ?_ | refine And.intro rfl ?_ | refine And.intro (by omega) ?_ | (refine And.intro ?_ ?_; focus (simp only [IntKind.wrap_i64, IntKind.wrap_u64, IntKind.wrap_u32]; omega)) | (refine And.intro ?_ ?_; focus (first | (simp only [tblOf_len, List.length_map, List.length_append, List.length_cons, List.length_nil, List.length_take, List.length_drop, List.length_replicate]; omega) | (simp only [tblOf_len, List.length_map, List.length_append, List.length_cons, List.length_nil, List.length_take, List.length_drop, List.length_replicate]; done)))))
        conv => whnf
        refine ⟨by rw [happ2 _ _ _ (rng_len 0 i), rng_succ, Nat.zero_add], ?_⟩
        repeat ((conv => whnf); (first | refine Cnd.yes ?_ | refine Cnd.no ?_ | refine And.intro rfl ?_ | refine And.intro (by omega) ?_ | (refine And.intro ?_ ?_; focus (simp only [IntKind.wrap_i64, IntKind.wrap_u64, IntKind.wrap_u32]; omega)) | (refine And.intro ?_ ?_; focus (first | (simp only [tblOf_len, List.length_map, List.length_append, List.length_cons, List.length_nil, List.length_take, List.length_drop, List.length_replicate]; omega) | (simp only [tblOf_len, List.length_map, List.length_append, List.length_cons, List.length_nil, List.length_take, List.length_drop, List.length_replicate]; done)))))
        conv => whnf
        exact ⟨i + 1, by omega, rfl, rfl, (tmkK_eq _ _ _ _).mpr rfl, by rw [show min (i + 1) 32 = i + 1 by omega, show i + 1 - 32 = 0 by omega]⟩
      · refine Cnd.ff (decide_eq_false (by omega)) ?_
        rw [show min i 32 = 32 by omega]
        have hr := rng_len 32 (i - 32)
        repeat ((conv => whnf); (first | refine Cnd.yes ?_ | refine Cnd.no ?_ | refine And.intro rfl ?_ | refine And.intro (by omega) ?_ | (refine And.intro ?_ ?_; focus (simp only [IntKind.wrap_i64, IntKind.wrap_u64, IntKind.wrap_u32]; omega)) | (refine And.intro ?_ ?_; focus (first | (simp only [tblOf_len, List.length_map, List.length_append, List.length_cons, List.length_nil, List.length_take, List.length_drop, List.length_replicate]; omega) | (simp only [tblOf_len, List.length_map, List.length_append, List.length_cons, List.length_nil, List.length_take, List.length_drop, List.length_replicate]; done)))))
        conv => whnf
        refine ⟨n - (i + 1), [0, 1, 4], tmk 44 0 [(3, .v .nilIface), (4, .ptr 0 0 0 0), (16, .v (.int .i64 n)), (17, .v (.int .i64 (i + 1 : Nat)))], nHp n 32 (i - 32 + 1), by omega, ?_⟩
        repeat ((conv => whnf); (first | refine Cnd.yes ?_ | refine Cnd.no ?_ | refine And.intro rfl ?_ | refine And.intro (by omega) ?_ | (refine And.intro ?_ ?_; focus (simp only [IntKind.wrap_i64, IntKind.wrap_u64, IntKind.wrap_u32]; omega)) | (refine And.intro ?_ ?_; focus (first | (simp only [tblOf_len, List.length_map, List.length_append, List.length_cons, List.length_nil, List.length_take, List.length_drop, List.length_replicate]; omega) | (simp only [tblOf_len, List.length_map, List.length_append, List.length_cons, List.length_nil, List.length_take, List.length_drop, List.length_replicate]; done)))))
        conv => whnf
        refine ⟨by rw [happ2 _ _ _ (rng_len 32 (i - 32)), rng_succ, show ((32 + (i - 32) : Nat) : Int) = i by omega], ?_⟩
        repeat ((conv => whnf); (first | refine Cnd.yes ?_ | refine Cnd.no ?_ | refine And.intro rfl ?_ | refine And.intro (by omega) ?_ | (refine And.intro ?_ ?_; focus (simp only [IntKind.wrap_i64, IntKind.wrap_u64, IntKind.wrap_u32]; omega)) | (refine And.intro ?_ ?_; focus (first | (simp only [tblOf_len, List.length_map, List.length_append, List.length_cons, List.length_nil, List.length_take, List.length_drop, List.length_replicate]; omega) | (simp only [tblOf_len, List.length_map, List.length_append, List.length_cons, List.length_nil, List.length_take, List.length_drop, List.length_replicate]; done)))))
        conv => whnf
        exact ⟨i + 1, by omega, rfl, rfl, (tmkK_eq _ _ _ _).mpr rfl, by rw [show min (i + 1) 32 = 32 by omega, show i + 1 - 32 = i - 32 + 1 by omega]⟩
    · have hin : i = n := by have := of_decide_eq_false hge; omega
      subst hin
      rw [show min i 32 = 32 by omega]
      repeat ((conv => whnf); (first | refine Cnd.yes ?_ | refine Cnd.no ?_ | refine And.intro rfl ?_ | refine And.intro (by omega) ?_ | (refine And.intro ?_ ?_; focus (simp only [IntKind.wrap_i64, IntKind.wrap_u64, IntKind.wrap_u32]; omega)) | (refine And.intro ?_ ?_; focus (first | (simp only [tblOf_len, List.length_map, List.length_append, List.length_cons, List.length_nil, List.length_take, List.length_drop, List.length_replicate]; omega) | (simp only [tblOf_len, List.length_map, List.length_append, List.length_cons, List.length_nil, List.length_take, List.length_drop, List.length_replicate]; done)))))
      conv => whnf
      refine ⟨[0, 1, 2], .tup [.ptr 0 0 0 0, .v .nilIface], nHp i 32 (i - 32), ?_⟩
      repeat ((conv => whnf); (first | refine Cnd.yes ?_ | refine Cnd.no ?_ | refine And.intro rfl ?_ | refine And.intro (by omega) ?_ | (refine And.intro ?_ ?_; focus (simp only [IntKind.wrap_i64, IntKind.wrap_u64, IntKind.wrap_u32]; omega)) | (refine And.intro ?_ ?_; focus (first | (simp only [tblOf_len, List.length_map, List.length_append, List.length_cons, List.length_nil, List.length_take, List.length_drop, List.length_replicate]; omega) | (simp only [tblOf_len, List.length_map, List.length_append, List.length_cons, List.length_nil, List.length_take, List.length_drop, List.length_replicate]; done)))))
      conv => whnf
      exact hK
theorem bad_run (M : HL) (K : SV → List Ent → HL → Prop) (n : Int) (h : n < 33 ∨ 256 < n) (hK : ∃ (t : TypeId) (y : Value), mcell M ⟨0, 0, none⟩ = some (.iface t y) ∧ K (.tup [.v (.pointer none), .v (.iface t y)]) [] M) :
    runF G2 pf8 [.v (.int .i64 n)] [] M fun v hp2 M2 => ∃ m v' hp', Wk (llen ([] : List Ent)) m [v] hp2 [v'] hp' (K v' hp' M2) := by
  obtain ⟨t, y, hy, hK⟩ := hK
  repeat ((conv => whnf); (first | refine Cnd.yes ?_ | refine Cnd.no ?_ | refine And.intro rfl ?_ | refine And.intro (by omega) ?_ | (refine And.intro ?_ ?_; focus (simp only [IntKind.wrap_i64, IntKind.wrap_u64, IntKind.wrap_u32]; omega)) | (refine And.intro ?_ ?_; focus (first | (simp only [tblOf_len, List.length_map, List.length_append, List.length_cons, List.length_nil, List.length_take, List.length_drop, List.length_replicate]; omega) | (simp only [tblOf_len, List.length_map, List.length_append, List.length_cons, List.length_nil, List.length_take, List.length_drop, List.length_replicate]; done)))))
  conv => whnf
  by_cases h1 : n < 33
  · refine Cnd.tt (decide_eq_true h1) ?_
    repeat ((conv => whnf); (first | refine Cnd.yes ?_ | refine Cnd.no ?_ | refine And.intro rfl ?_ | refine And.intro (by omega) ?_ | (refine And.intro ?_ ?_; focus (simp only [IntKind.wrap_i64, IntKind.wrap_u64, IntKind.wrap_u32]; omega)) | (refine And.intro ?_ ?_; focus (first | (simp only [tblOf_len, List.length_map, List.length_append, List.length_cons, List.length_nil, List.length_take, List.length_drop, List.length_replicate]; omega) | (simp only [tblOf_len, List.length_map, List.length_append, List.length_cons, List.length_nil, List.length_take, List.length_drop, List.length_replicate]; done)))))
    conv => whnf
    refine ⟨_, hy, ?_⟩
    repeat ((conv => whnf); (first | refine Cnd.yes ?_ | refine Cnd.no ?_ | refine And.intro rfl ?_ | refine And.intro (by omega) ?_ | (refine And.intro ?_ ?_; focus (simp only [IntKind.wrap_i64, IntKind.wrap_u64, IntKind.wrap_u32]; omega)) | (refine And.intro ?_ ?_; focus (first | (simp only [tblOf_len, List.length_map, List.length_append, List.length_cons, List.length_nil, List.length_take, List.length_drop, List.length_replicate]; omega) | (simp only [tblOf_len, List.length_map, List.length_append, List.length_cons, List.length_nil, List.length_take, List.length_drop, List.length_replicate]; done)))))
    conv => whnf
    refine ⟨[], .tup [.v (.pointer none), .v (.iface t y)], [], ?_⟩
    repeat ((conv => whnf); (first | refine Cnd.yes ?_ | refine Cnd.no ?_ | refine And.intro rfl ?_ | refine And.intro (by omega) ?_ | (refine And.intro ?_ ?_; focus (simp only [IntKind.wrap_i64, IntKind.wrap_u64, IntKind.wrap_u32]; omega)) | (refine And.intro ?_ ?_; focus (first | (simp only [tblOf_len, List.length_map, List.length_append, List.length_cons, List.length_nil, List.length_take, List.length_drop, List.length_replicate]; omega) | (simp only [tblOf_len, List.length_map, List.length_append, List.length_cons, List.length_nil, List.length_take, List.length_drop, List.length_replicate]; done)))))
    conv => whnf
    exact hK
  · refine Cnd.ff (decide_eq_false h1) ?_
    repeat ((conv => whnf); (first | refine Cnd.yes ?_ | refine Cnd.no ?_ | refine And.intro rfl ?_ | refine And.intro (by omega) ?_ | (refine And.intro ?_ ?_; focus (simp only [IntKind.wrap_i64, IntKind.wrap_u64, IntKind.wrap_u32]; omega)) | (refine And.intro ?_ ?_; focus (first | (simp only [tblOf_len, List.length_map, List.length_append, List.length_cons, List.length_nil, List.length_take, List.length_drop, List.length_replicate]; omega) | (simp only [tblOf_len, List.length_map, List.length_append, List.length_cons, List.length_nil, List.length_take, List.length_drop, List.length_replicate]; done)))))
    conv => whnf
    refine Cnd.tt (decide_eq_true (by omega)) ?_
    repeat ((conv => whnf); (first | refine Cnd.yes ?_ | refine Cnd.no ?_ | refine And.intro rfl ?_ | refine And.intro (by omega) ?_ | (refine And.intro ?_ ?_; focus (simp only [IntKind.wrap_i64, IntKind.wrap_u64, IntKind.wrap_u32]; omega)) | (refine And.intro ?_ ?_; focus (first | (simp only [tblOf_len, List.length_map, List.length_append, List.length_cons, List.length_nil, List.length_take, List.length_drop, List.length_replicate]; omega) | (simp only [tblOf_len, List.length_map, List.length_append, List.length_cons, List.length_nil, List.length_take, List.length_drop, List.length_replicate]; done)))))
    conv => whnf
    refine ⟨_, hy, ?_⟩
    repeat ((conv => whnf); (first | refine Cnd.yes ?_ | refine Cnd.no ?_ | refine And.intro rfl ?_ | refine And.intro (by omega) ?_ | (refine And.intro ?_ ?_; focus (simp only [IntKind.wrap_i64, IntKind.wrap_u64, IntKind.wrap_u32]; omega)) | (refine And.intro ?_ ?_; focus (first | (simp only [tblOf_len, List.length_map, List.length_append, List.length_cons, List.length_nil, List.length_take, List.length_drop, List.length_replicate]; omega) | (simp only [tblOf_len, List.length_map, List.length_append, List.length_cons, List.length_nil, List.length_take, List.length_drop, List.length_replicate]; done)))))
    conv => whnf
    refine ⟨[], .tup [.v (.pointer none), .v (.iface t y)], [], ?_⟩
    repeat ((conv => whnf); (first | refine Cnd.yes ?_ | refine Cnd.no ?_ | refine And.intro rfl ?_ | refine And.intro (by omega) ?_ | (refine And.intro ?_ ?_; focus (simp only [IntKind.wrap_i64, IntKind.wrap_u64, IntKind.wrap_u32]; omega)) | (refine And.intro ?_ ?_; focus (first | (simp only [tblOf_len, List.length_map, List.length_append, List.length_cons, List.length_nil, List.length_take, List.length_drop, List.length_replicate]; omega) | (simp only [tblOf_len, List.length_map, List.length_append, List.length_cons, List.length_nil, List.length_take, List.length_drop, List.length_replicate]; done)))))
    conv => whnf
    exact hK
def newS : Vc.Spec := fun args hp M K => (∃ n : Nat, args = [.v (.int .i64 n)] ∧ hp = [] ∧ 33 ≤ n ∧ n ≤ 256 ∧ K (.tup [.ptr 0 0 0 0, .v .nilIface]) (nHp n 32 (n - 32))) ∨
  (∃ n : Int, args = [.v (.int .i64 n)] ∧ hp = [] ∧ (n < 33 ∨ 256 < n) ∧ ∃ (t : TypeId) (y : Value), mcell M ⟨0, 0, none⟩ = some (.iface t y) ∧ K (.tup [.v (.pointer none), .v (.iface t y)]) [])
theorem new_ok : SOK Tryd.prog 8 newS := by
  refine TOK.weaken (TOK.out (runF_eq G2_ok mixed at8.1 at8.2 pf8_eq)) fun args hp M K h => ?_
  rcases h with ⟨n, rfl, rfl, h1, h2, h3⟩ | ⟨n, rfl, rfl, h1, h2⟩
  · exact new_run M K n h1 h2 h3
  · exact bad_run M K n h1 h2
theorem undo_run (M : HL) (K : SV → List Ent → HL → Prop) (n : Int) (of fr : List Int) (nm old : Int) (r : Nat) (h : 1 ≤ r ∧ r < 32) (ho : of.length = 32) (hf : fr.length ≤ 90000) (hn : of.getD r 0 = nm) (hlo : looseB n of fr old = true)
    (hK : K (.v (.bool true)) [.cells 52 [.v (.int .i64 n), .slc 1 1 0 32, .slc 3 1 0 (fr.length + 1)], .row true 3 [.int .i64] ((of.set r old).map irow), .gone, .row true 3 [.int .i64] ((nm :: fr).map irow)] M) :
    runF G2 pf16 [.ptr 0 0 0 0, .v (.int .i64 r), .v (.int .i64 nm), .v (.int .i64 old)] (renHp true n of fr) M fun v hp2 M2 => ∃ m v' hp', Wk (llen (renHp true n of fr)) m [v] hp2 [v'] hp' (K v' hp' M2) := by
  have hget : toI (cellAt (of.map irow) (0 + (r : Int).toNat) 0) = nm := by rw [toI_i (by omega), hn]
  repeat ((conv => whnf); (first | refine Cnd.yes ?_ | refine Cnd.no ?_ | refine And.intro rfl ?_ | refine And.intro (by omega) ?_ | (refine And.intro ?_ ?_; focus (simp only [IntKind.wrap_i64, IntKind.wrap_u64, IntKind.wrap_u32]; omega)) | (refine And.intro ?_ ?_; focus (first | (simp only [tblOf_len, List.length_map, List.length_append, List.length_cons, List.length_nil, List.length_take, List.length_drop, List.length_replicate]; omega) | (simp only [tblOf_len, List.length_map, List.length_append, List.length_cons, List.length_nil, List.length_take, List.length_drop, List.length_replicate]; done)))))
  conv => whnf
  refine Cnd.ff (decide_eq_false (by omega)) ?_
  repeat ((conv => whnf); (first | refine Cnd.yes ?_ | refine Cnd.no ?_ | refine And.intro rfl ?_ | refine And.intro (by omega) ?_ | (refine And.intro ?_ ?_; focus (simp only [IntKind.wrap_i64, IntKind.wrap_u64, IntKind.wrap_u32]; omega)) | (refine And.intro ?_ ?_; focus (first | (simp only [tblOf_len, List.length_map, List.length_append, List.length_cons, List.length_nil, List.length_take, List.length_drop, List.length_replicate]; omega) | (simp only [tblOf_len, List.length_map, List.length_append, List.length_cons, List.length_nil, List.length_take, List.length_drop, List.length_replicate]; done)))))
  conv => whnf
  refine Cnd.ff (decide_eq_false (by omega)) ?_
  repeat ((conv => whnf); (first | refine Cnd.yes ?_ | refine Cnd.no ?_ | refine And.intro rfl ?_ | refine And.intro (by omega) ?_ | (refine And.intro ?_ ?_; focus (simp only [IntKind.wrap_i64, IntKind.wrap_u64, IntKind.wrap_u32]; omega)) | (refine And.intro ?_ ?_; focus (first | (simp only [tblOf_len, List.length_map, List.length_append, List.length_cons, List.length_nil, List.length_take, List.length_drop, List.length_replicate]; omega) | (simp only [tblOf_len, List.length_map, List.length_append, List.length_cons, List.length_nil, List.length_take, List.length_drop, List.length_replicate]; done)))))
  conv => whnf
  rw [hget]
  refine Cnd.ff (by simp) ?_
  repeat ((conv => whnf); (first | refine Cnd.yes ?_ | refine Cnd.no ?_ | refine And.intro rfl ?_ | refine And.intro (by omega) ?_ | (refine And.intro ?_ ?_; focus (simp only [IntKind.wrap_i64, IntKind.wrap_u64, IntKind.wrap_u32]; omega)) | (refine And.intro ?_ ?_; focus (first | (simp only [tblOf_len, List.length_map, List.length_append, List.length_cons, List.length_nil, List.length_take, List.length_drop, List.length_replicate]; omega) | (simp only [tblOf_len, List.length_map, List.length_append, List.length_cons, List.length_nil, List.length_take, List.length_drop, List.length_replicate]; done)))))
  conv => whnf
  refine ⟨true, n, of, fr, old, rfl, rfl, by omega, by omega, ?_⟩
  rw [hlo]
  repeat ((conv => whnf); (first | refine Cnd.yes ?_ | refine Cnd.no ?_ | refine And.intro rfl ?_ | refine And.intro (by omega) ?_ | (refine And.intro ?_ ?_; focus (simp only [IntKind.wrap_i64, IntKind.wrap_u64, IntKind.wrap_u32]; omega)) | (refine And.intro ?_ ?_; focus (first | (simp only [tblOf_len, List.length_map, List.length_append, List.length_cons, List.length_nil, List.length_take, List.length_drop, List.length_replicate]; omega) | (simp only [tblOf_len, List.length_map, List.length_append, List.length_cons, List.length_nil, List.length_take, List.length_drop, List.length_replicate]; done)))))
  conv => whnf
  refine ⟨[0, 1, 2, 4], .v (.bool true), [.cells 52 [.v (.int .i64 n), .slc 1 1 0 32, .slc 3 1 0 (fr.length + 1)], .row true 3 [.int .i64] ((of.set r old).map irow), .gone, .row true 3 [.int .i64] ((nm :: fr).map irow)], ?_⟩
  repeat ((conv => whnf); (first | refine Cnd.yes ?_ | refine Cnd.no ?_ | refine And.intro rfl ?_ | refine And.intro (by omega) ?_ | (refine And.intro ?_ ?_; focus (simp only [IntKind.wrap_i64, IntKind.wrap_u64, IntKind.wrap_u32]; omega)) | (refine And.intro ?_ ?_; focus (first | (simp only [tblOf_len, List.length_map, List.length_append, List.length_cons, List.length_nil, List.length_take, List.length_drop, List.length_replicate]; omega) | (simp only [tblOf_len, List.length_map, List.length_append, List.length_cons, List.length_nil, List.length_take, List.length_drop, List.length_replicate]; done)))))
  conv => whnf
  refine ⟨irow_set of old (by omega), ?_⟩
  repeat ((conv => whnf); (first | refine Cnd.yes ?_ | refine Cnd.no ?_ | refine And.intro rfl ?_ | refine And.intro (by omega) ?_ | (refine And.intro ?_ ?_; focus (simp only [IntKind.wrap_i64, IntKind.wrap_u64, IntKind.wrap_u32]; omega)) | (refine And.intro ?_ ?_; focus (first | (simp only [tblOf_len, List.length_map, List.length_append, List.length_cons, List.length_nil, List.length_take, List.length_drop, List.length_replicate]; omega) | (simp only [tblOf_len, List.length_map, List.length_append, List.length_cons, List.length_nil, List.length_take, List.length_drop, List.length_replicate]; done)))))
  conv => whnf
  refine ⟨by rw [List.drop_zero, List.drop_zero, List.take_of_length_le (l := fr.map irow) (by simp)]; rfl, ?_⟩
  repeat ((conv => whnf); (first | refine Cnd.yes ?_ | refine Cnd.no ?_ | refine And.intro rfl ?_ | refine And.intro (by omega) ?_ | (refine And.intro ?_ ?_; focus (simp only [IntKind.wrap_i64, IntKind.wrap_u64, IntKind.wrap_u32]; omega)) | (refine And.intro ?_ ?_; focus (first | (simp only [tblOf_len, List.length_map, List.length_append, List.length_cons, List.length_nil, List.length_take, List.length_drop, List.length_replicate]; omega) | (simp only [tblOf_len, List.length_map, List.length_append, List.length_cons, List.length_nil, List.length_take, List.length_drop, List.length_replicate]; done)))))
  conv => whnf
  exact hK
def undoOK (n : Int) (of fr : List Int) (r nm old : Int) : Bool := decide (1 ≤ r ∧ r < 32 ∧ of.getD r.toNat 0 = nm) && looseB n of fr old
theorem undono_run (M : HL) (K : SV → List Ent → HL → Prop) (n : Int) (of fr : List Int) (r nm old : Int) (ho : of.length = 32) (hf : fr.length ≤ 90000) (h : undoOK n of fr r nm old = false)
    (hK : K (.v (.bool false)) (renHp true n of fr) M) :
    runF G2 pf16 [.ptr 0 0 0 0, .v (.int .i64 r), .v (.int .i64 nm), .v (.int .i64 old)] (renHp true n of fr) M fun v hp2 M2 => ∃ m v' hp', Wk (llen (renHp true n of fr)) m [v] hp2 [v'] hp' (K v' hp' M2) := by
  repeat ((conv => whnf); (first | refine Cnd.yes ?_ | refine Cnd.no ?_ | refine And.intro rfl ?_ | refine And.intro (by omega) ?_ | (refine And.intro ?_ ?_; focus (simp only [IntKind.wrap_i64, IntKind.wrap_u64, IntKind.wrap_u32]; omega)) | (refine And.intro ?_ ?_; focus (first | (simp only [tblOf_len, List.length_map, List.length_append, List.length_cons, List.length_nil, List.length_take, List.length_drop, List.length_replicate]; omega) | (simp only [tblOf_len, List.length_map, List.length_append, List.length_cons, List.length_nil, List.length_take, List.length_drop, List.length_replicate]; done)))))
  conv => whnf
  by_cases h1 : r < 1
  · refine Cnd.tt (decide_eq_true h1) ?_
    repeat ((conv => whnf); (first | refine Cnd.yes ?_ | refine Cnd.no ?_ | refine And.intro rfl ?_ | refine And.intro (by omega) ?_ | (refine And.intro ?_ ?_; focus (simp only [IntKind.wrap_i64, IntKind.wrap_u64, IntKind.wrap_u32]; omega)) | (refine And.intro ?_ ?_; focus (first | (simp only [tblOf_len, List.length_map, List.length_append, List.length_cons, List.length_nil, List.length_take, List.length_drop, List.length_replicate]; omega) | (simp only [tblOf_len, List.length_map, List.length_append, List.length_cons, List.length_nil, List.length_take, List.length_drop, List.length_replicate]; done)))))
    conv => whnf
    refine ⟨[0, 1, 2], .v (.bool false), renHp true n of fr, ?_⟩
    repeat ((conv => whnf); (first | refine Cnd.yes ?_ | refine Cnd.no ?_ | refine And.intro rfl ?_ | refine And.intro (by omega) ?_ | (refine And.intro ?_ ?_; focus (simp only [IntKind.wrap_i64, IntKind.wrap_u64, IntKind.wrap_u32]; omega)) | (refine And.intro ?_ ?_; focus (first | (simp only [tblOf_len, List.length_map, List.length_append, List.length_cons, List.length_nil, List.length_take, List.length_drop, List.length_replicate]; omega) | (simp only [tblOf_len, List.length_map, List.length_append, List.length_cons, List.length_nil, List.length_take, List.length_drop, List.length_replicate]; done)))))
    conv => whnf
    exact hK
  · refine Cnd.ff (decide_eq_false h1) ?_
    repeat ((conv => whnf); (first | refine Cnd.yes ?_ | refine Cnd.no ?_ | refine And.intro rfl ?_ | refine And.intro (by omega) ?_ | (refine And.intro ?_ ?_; focus (simp only [IntKind.wrap_i64, IntKind.wrap_u64, IntKind.wrap_u32]; omega)) | (refine And.intro ?_ ?_; focus (first | (simp only [tblOf_len, List.length_map, List.length_append, List.length_cons, List.length_nil, List.length_take, List.length_drop, List.length_replicate]; omega) | (simp only [tblOf_len, List.length_map, List.length_append, List.length_cons, List.length_nil, List.length_take, List.length_drop, List.length_replicate]; done)))))
    conv => whnf
    by_cases h2 : 32 ≤ r
    · refine Cnd.tt (decide_eq_true (by omega)) ?_
      repeat ((conv => whnf); (first | refine Cnd.yes ?_ | refine Cnd.no ?_ | refine And.intro rfl ?_ | refine And.intro (by omega) ?_ | (refine And.intro ?_ ?_; focus (simp only [IntKind.wrap_i64, IntKind.wrap_u64, IntKind.wrap_u32]; omega)) | (refine And.intro ?_ ?_; focus (first | (simp only [tblOf_len, List.length_map, List.length_append, List.length_cons, List.length_nil, List.length_take, List.length_drop, List.length_replicate]; omega) | (simp only [tblOf_len, List.length_map, List.length_append, List.length_cons, List.length_nil, List.length_take, List.length_drop, List.length_replicate]; done)))))
      conv => whnf
      refine ⟨[0, 1, 2], .v (.bool false), renHp true n of fr, ?_⟩
      repeat ((conv => whnf); (first | refine Cnd.yes ?_ | refine Cnd.no ?_ | refine And.intro rfl ?_ | refine And.intro (by omega) ?_ | (refine And.intro ?_ ?_; focus (simp only [IntKind.wrap_i64, IntKind.wrap_u64, IntKind.wrap_u32]; omega)) | (refine And.intro ?_ ?_; focus (first | (simp only [tblOf_len, List.length_map, List.length_append, List.length_cons, List.length_nil, List.length_take, List.length_drop, List.length_replicate]; omega) | (simp only [tblOf_len, List.length_map, List.length_append, List.length_cons, List.length_nil, List.length_take, List.length_drop, List.length_replicate]; done)))))
      conv => whnf
      exact hK
    · refine Cnd.ff (decide_eq_false (by omega)) ?_
      obtain ⟨q, rfl⟩ : ∃ q : Nat, r = q := ⟨r.toNat, by omega⟩
      have hget : toI (cellAt (of.map irow) (0 + (q : Int).toNat) 0) = of.getD q 0 := by rw [toI_i (by omega)]
      repeat ((conv => whnf); (first | refine Cnd.yes ?_ | refine Cnd.no ?_ | refine And.intro rfl ?_ | refine And.intro (by omega) ?_ | (refine And.intro ?_ ?_; focus (simp only [IntKind.wrap_i64, IntKind.wrap_u64, IntKind.wrap_u32]; omega)) | (refine And.intro ?_ ?_; focus (first | (simp only [tblOf_len, List.length_map, List.length_append, List.length_cons, List.length_nil, List.length_take, List.length_drop, List.length_replicate]; omega) | (simp only [tblOf_len, List.length_map, List.length_append, List.length_cons, List.length_nil, List.length_take, List.length_drop, List.length_replicate]; done)))))
      conv => whnf
      rw [hget]
      by_cases h3 : of.getD q 0 = nm
      · refine Cnd.ff (by rw [h3]; simp) ?_
        repeat ((conv => whnf); (first | refine Cnd.yes ?_ | refine Cnd.no ?_ | refine And.intro rfl ?_ | refine And.intro (by omega) ?_ | (refine And.intro ?_ ?_; focus (simp only [IntKind.wrap_i64, IntKind.wrap_u64, IntKind.wrap_u32]; omega)) | (refine And.intro ?_ ?_; focus (first | (simp only [tblOf_len, List.length_map, List.length_append, List.length_cons, List.length_nil, List.length_take, List.length_drop, List.length_replicate]; omega) | (simp only [tblOf_len, List.length_map, List.length_append, List.length_cons, List.length_nil, List.length_take, List.length_drop, List.length_replicate]; done)))))
        conv => whnf
        have hlo : looseB n of fr old = false := by
          unfold undoOK at h
          rw [decide_eq_true ⟨by omega, by omega, by simpa using h3⟩, Bool.true_and] at h
          exact h
        refine ⟨true, n, of, fr, old, rfl, rfl, by omega, by omega, ?_⟩
        rw [hlo]
        repeat ((conv => whnf); (first | refine Cnd.yes ?_ | refine Cnd.no ?_ | refine And.intro rfl ?_ | refine And.intro (by omega) ?_ | (refine And.intro ?_ ?_; focus (simp only [IntKind.wrap_i64, IntKind.wrap_u64, IntKind.wrap_u32]; omega)) | (refine And.intro ?_ ?_; focus (first | (simp only [tblOf_len, List.length_map, List.length_append, List.length_cons, List.length_nil, List.length_take, List.length_drop, List.length_replicate]; omega) | (simp only [tblOf_len, List.length_map, List.length_append, List.length_cons, List.length_nil, List.length_take, List.length_drop, List.length_replicate]; done)))))
        conv => whnf
        refine ⟨[0, 1, 2], .v (.bool false), renHp true n of fr, ?_⟩
        repeat ((conv => whnf); (first | refine Cnd.yes ?_ | refine Cnd.no ?_ | refine And.intro rfl ?_ | refine And.intro (by omega) ?_ | (refine And.intro ?_ ?_; focus (simp only [IntKind.wrap_i64, IntKind.wrap_u64, IntKind.wrap_u32]; omega)) | (refine And.intro ?_ ?_; focus (first | (simp only [tblOf_len, List.length_map, List.length_append, List.length_cons, List.length_nil, List.length_take, List.length_drop, List.length_replicate]; omega) | (simp only [tblOf_len, List.length_map, List.length_append, List.length_cons, List.length_nil, List.length_take, List.length_drop, List.length_replicate]; done)))))
        conv => whnf
        exact hK
      · refine Cnd.tt (by simp only [bne_iff_ne]; exact h3) ?_
        repeat ((conv => whnf); (first | refine Cnd.yes ?_ | refine Cnd.no ?_ | refine And.intro rfl ?_ | refine And.intro (by omega) ?_ | (refine And.intro ?_ ?_; focus (simp only [IntKind.wrap_i64, IntKind.wrap_u64, IntKind.wrap_u32]; omega)) | (refine And.intro ?_ ?_; focus (first | (simp only [tblOf_len, List.length_map, List.length_append, List.length_cons, List.length_nil, List.length_take, List.length_drop, List.length_replicate]; omega) | (simp only [tblOf_len, List.length_map, List.length_append, List.length_cons, List.length_nil, List.length_take, List.length_drop, List.length_replicate]; done)))))
        conv => whnf
        refine ⟨[0, 1, 2], .v (.bool false), renHp true n of fr, ?_⟩
        repeat ((conv => whnf); (first | refine Cnd.yes ?_ | refine Cnd.no ?_ | refine And.intro rfl ?_ | refine And.intro (by omega) ?_ | (refine And.intro ?_ ?_; focus (simp only [IntKind.wrap_i64, IntKind.wrap_u64, IntKind.wrap_u32]; omega)) | (refine And.intro ?_ ?_; focus (first | (simp only [tblOf_len, List.length_map, List.length_append, List.length_cons, List.length_nil, List.length_take, List.length_drop, List.length_replicate]; omega) | (simp only [tblOf_len, List.length_map, List.length_append, List.length_cons, List.length_nil, List.length_take, List.length_drop, List.length_replicate]; done)))))
        conv => whnf
        exact hK
def undoS : Vc.Spec := fun args hp _ K => (∃ (n : Int) (of fr : List Int) (r nm old : Int), args = [.ptr 0 0 0 0, .v (.int .i64 r), .v (.int .i64 nm), .v (.int .i64 old)] ∧ hp = renHp true n of fr ∧ of.length = 32 ∧ fr.length ≤ 90000 ∧ undoOK n of fr r nm old = false ∧ K (.v (.bool false)) (renHp true n of fr)) ∨
  (∃ (n : Int) (of fr : List Int) (nm old : Int) (r : Nat), args = [.ptr 0 0 0 0, .v (.int .i64 r), .v (.int .i64 nm), .v (.int .i64 old)] ∧ hp = renHp true n of fr ∧ (1 ≤ r ∧ r < 32) ∧ of.length = 32 ∧ fr.length ≤ 90000 ∧ of.getD r 0 = nm ∧ looseB n of fr old = true ∧
    K (.v (.bool true)) [.cells 52 [.v (.int .i64 n), .slc 1 1 0 32, .slc 3 1 0 (fr.length + 1)], .row true 3 [.int .i64] ((of.set r old).map irow), .gone, .row true 3 [.int .i64] ((nm :: fr).map irow)])
theorem undo_ok : SOK Tryd.prog 16 undoS := by
  refine TOK.weaken (TOK.out (runF_eq G2_ok mixed at16.1 at16.2 pf16_eq)) fun args hp M K h => ?_
  rcases h with ⟨n, of, fr, r, nm, old, rfl, rfl, h1, h2, h3, h4⟩ | ⟨n, of, fr, nm, old, r, rfl, rfl, h1, h2, h3, h4, h5, h6⟩
  · exact undono_run M K n of fr r nm old h1 h2 h3 h4
  · exact undo_run M K n of fr nm old r h1 h2 h3 h4 h5 h6
theorem all_run (M : HL) (K : SV → List Ent → HL → Prop) (n : Int) (of fr : List Int) (ho : of.length = 32) (hK : K (.slc 3 1 0 32) (renHp true n of fr ++ [.row true 3 [.int .i64] (of.map irow)]) M) :
    runF G2 pf15 [.ptr 0 0 0 0] (renHp true n of fr) M fun v hp2 M2 => ∃ m v' hp', Wk (llen (renHp true n of fr)) m [v] hp2 [v'] hp' (K v' hp' M2) := by
  repeat ((conv => whnf); (first | refine Cnd.yes ?_ | refine Cnd.no ?_ | refine And.intro rfl ?_ | refine And.intro (by omega) ?_ | (refine And.intro ?_ ?_; focus (simp only [IntKind.wrap_i64, IntKind.wrap_u64, IntKind.wrap_u32]; omega)) | (refine And.intro ?_ ?_; focus (first | (simp only [tblOf_len, List.length_map, List.length_append, List.length_cons, List.length_nil, List.length_take, List.length_drop, List.length_replicate]; omega) | (simp only [tblOf_len, List.length_map, List.length_append, List.length_cons, List.length_nil, List.length_take, List.length_drop, List.length_replicate]; done)))))
  conv => whnf
  refine ⟨fun h0 => ?_, fun h0 => by omega⟩
  repeat ((conv => whnf); (first | refine Cnd.yes ?_ | refine Cnd.no ?_ | refine And.intro rfl ?_ | refine And.intro (by omega) ?_ | (refine And.intro ?_ ?_; focus (simp only [IntKind.wrap_i64, IntKind.wrap_u64, IntKind.wrap_u32]; omega)) | (refine And.intro ?_ ?_; focus (first | (simp only [tblOf_len, List.length_map, List.length_append, List.length_cons, List.length_nil, List.length_take, List.length_drop, List.length_replicate]; omega) | (simp only [tblOf_len, List.length_map, List.length_append, List.length_cons, List.length_nil, List.length_take, List.length_drop, List.length_replicate]; done)))))
  conv => whnf
  refine ⟨[0, 1, 2, 4], .slc 3 1 0 32, renHp true n of fr ++ [.row true 3 [.int .i64] (of.map irow)], ?_⟩
  repeat ((conv => whnf); (first | refine Cnd.yes ?_ | refine Cnd.no ?_ | refine And.intro rfl ?_ | refine And.intro (by omega) ?_ | (refine And.intro ?_ ?_; focus (simp only [IntKind.wrap_i64, IntKind.wrap_u64, IntKind.wrap_u32]; omega)) | (refine And.intro ?_ ?_; focus (first | (simp only [tblOf_len, List.length_map, List.length_append, List.length_cons, List.length_nil, List.length_take, List.length_drop, List.length_replicate]; omega) | (simp only [tblOf_len, List.length_map, List.length_append, List.length_cons, List.length_nil, List.length_take, List.length_drop, List.length_replicate]; done)))))
  conv => whnf
  refine ⟨by rw [List.take_of_length_le (l := List.drop 0 (of.map irow)) (by simp)]; rfl, ?_⟩
  repeat ((conv => whnf); (first | refine Cnd.yes ?_ | refine Cnd.no ?_ | refine And.intro rfl ?_ | refine And.intro (by omega) ?_ | (refine And.intro ?_ ?_; focus (simp only [IntKind.wrap_i64, IntKind.wrap_u64, IntKind.wrap_u32]; omega)) | (refine And.intro ?_ ?_; focus (first | (simp only [tblOf_len, List.length_map, List.length_append, List.length_cons, List.length_nil, List.length_take, List.length_drop, List.length_replicate]; omega) | (simp only [tblOf_len, List.length_map, List.length_append, List.length_cons, List.length_nil, List.length_take, List.length_drop, List.length_replicate]; done)))))
  conv => whnf
  exact hK
def allS : Vc.Spec := fun args hp _ K => ∃ (n : Int) (of fr : List Int), args = [.ptr 0 0 0 0] ∧ hp = renHp true n of fr ∧ of.length = 32 ∧ K (.slc 3 1 0 32) (renHp true n of fr ++ [.row true 3 [.int .i64] (of.map irow)])
theorem all_ok : SOK Tryd.prog 15 allS := by
  refine TOK.weaken (TOK.out (runF_eq G2_ok mixed at15.1 at15.2 pf15_eq)) fun args hp M K h => ?_
  obtain ⟨n, of, fr, rfl, rfl, h1, h2⟩ := h
  exact all_run M K n of fr h1 h2
def freeS : Vc.Spec := fun args hp _ K => ∃ (n : Int) (of fr : List Int) (e : TypeId) (o : Bool) (nm : List Int), args = [.ptr 0 0 0 0, .slc 3 1 0 nm.length] ∧ hp = fA n of fr e o nm ∧ of.length ≤ 1000 ∧ fr.length ≤ 50000 ∧ nm.length ≤ 100 ∧
  if (freeL n of nm (fr, 0)).2 = 0 then K (.v (.int .i64 0)) (fA n of fr e o nm) else K (.v (.int .i64 ((freeL n of nm (fr, 0)).2 : Nat))) (fB n of (freeL n of nm (fr, 0)).1 e o nm)
theorem free_ok : SOK Tryd.prog 11 freeS := by
  refine TOK.weaken (runF_eq G2_ok mixed at11.1 at11.2 pf11_eq) fun args hp M K h => ?_
  obtain ⟨n, of, fr, e, o, nm, rfl, rfl, h1, h2, h3, h4⟩ := h
  exact free_run M K n of fr e o nm h1 h2 h3 (by split <;> rename_i h <;> simp only [h, if_true, if_false] at h4 <;> exact h4)
theorem ints_run (M : HL) (K : SV → List Ent → HL → Prop) (e : TypeId) (o : Bool) (l : List Int) (hl : l.length ≤ 1000) (hK : K (.slc 1 1 0 l.length) [.row o e [.int .i64] (l.map irow), .row true 3 [.int .i64] (l.map irow)] M) :
    runF G2 pf14 [.slc 0 1 0 l.length] [.row o e [.int .i64] (l.map irow)] M K := by
  repeat ((conv => whnf); (first | refine Cnd.yes ?_ | refine Cnd.no ?_ | refine And.intro rfl ?_ | refine And.intro (by omega) ?_ | (refine And.intro ?_ ?_; focus (simp only [IntKind.wrap_i64, IntKind.wrap_u64, IntKind.wrap_u32]; omega)) | (refine And.intro ?_ ?_; focus (first | (simp only [tblOf_len, List.length_map, List.length_append, List.length_cons, List.length_nil, List.length_take, List.length_drop, List.length_replicate]; omega) | (simp only [tblOf_len, List.length_map, List.length_append, List.length_cons, List.length_nil, List.length_take, List.length_drop, List.length_replicate]; done)))))
  conv => whnf
  refine ⟨fun cnt tm hp M' => ∃ i : Nat, i ≤ l.length ∧ cnt = l.length - i ∧ M' = M ∧ tmkK 22 0 [(0, .slc 0 1 0 l.length), (3, .slc 1 1 0 i), (4, .v (.int .i64 i))] (fun l => tm = l) ∧ hp = [.row o e [.int .i64] (l.map irow), .row true 3 [.int .i64] ((l.take i).map irow)],
    ⟨l.length, [0, 1], tmk 22 0 [(0, .slc 0 1 0 l.length), (3, .slc 1 1 0 0), (4, .v (.int .i64 (0 : Nat)))], [.row o e [.int .i64] (l.map irow), .row true 3 [.int .i64] ((l.take 0).map irow)], ?_⟩, ?_⟩
  · repeat ((conv => whnf); (first | refine Cnd.yes ?_ | refine Cnd.no ?_ | refine And.intro rfl ?_ | refine And.intro (by omega) ?_ | (refine And.intro ?_ ?_; focus (simp only [IntKind.wrap_i64, IntKind.wrap_u64, IntKind.wrap_u32]; omega)) | (refine And.intro ?_ ?_; focus (first | (simp only [tblOf_len, List.length_map, List.length_append, List.length_cons, List.length_nil, List.length_take, List.length_drop, List.length_replicate]; omega) | (simp only [tblOf_len, List.length_map, List.length_append, List.length_cons, List.length_nil, List.length_take, List.length_drop, List.length_replicate]; done)))))
    conv => whnf
    exact ⟨0, by omega, by omega, rfl, (tmkK_eq _ _ _ _).mpr rfl, rfl⟩
  · rintro cnt tm hp M' ⟨i, hi, rfl, rfl, htm, rfl⟩
    conv at htm => whnf
    subst htm
    repeat ((conv => whnf); (first | refine Cnd.yes ?_ | refine Cnd.no ?_ | refine And.intro rfl ?_ | refine And.intro (by omega) ?_ | (refine And.intro ?_ ?_; focus (simp only [IntKind.wrap_i64, IntKind.wrap_u64, IntKind.wrap_u32]; omega)) | (refine And.intro ?_ ?_; focus (first | (simp only [tblOf_len, List.length_map, List.length_append, List.length_cons, List.length_nil, List.length_take, List.length_drop, List.length_replicate]; omega) | (simp only [tblOf_len, List.length_map, List.length_append, List.length_cons, List.length_nil, List.length_take, List.length_drop, List.length_replicate]; done)))))
    conv => whnf
    refine Cnd.mk (fun hlt => ?_) fun hge => ?_
    · have hin : i < l.length := by have := of_decide_eq_true hlt; omega
      repeat ((conv => whnf); (first | refine Cnd.yes ?_ | refine Cnd.no ?_ | refine And.intro rfl ?_ | refine And.intro (by omega) ?_ | (refine And.intro ?_ ?_; focus (simp only [IntKind.wrap_i64, IntKind.wrap_u64, IntKind.wrap_u32]; omega)) | (refine And.intro ?_ ?_; focus (first | (simp only [tblOf_len, List.length_map, List.length_append, List.length_cons, List.length_nil, List.length_take, List.length_drop, List.length_replicate]; omega) | (simp only [tblOf_len, List.length_map, List.length_append, List.length_cons, List.length_nil, List.length_take, List.length_drop, List.length_replicate]; done)))))
      conv => whnf
      rw [toI_i hin]
      have hx : l.take (i + 1) = l.take i ++ [l.getD i 0] := by
        rw [List.take_succ_eq_append_getElem (by omega)]
        simp [List.getD, List.getElem?_eq_getElem hin]
      refine ⟨l.length - (i + 1), [0, 3], tmk 22 0 [(0, .slc 0 1 0 l.length), (3, .slc 1 1 0 (i + 1)), (4, .v (.int .i64 (i + 1 : Nat)))], [.row o e [.int .i64] (l.map irow), .row true 3 [.int .i64] ((l.take (i + 1)).map irow)], by omega, ?_⟩
      repeat ((conv => whnf); (first | refine Cnd.yes ?_ | refine Cnd.no ?_ | refine And.intro rfl ?_ | refine And.intro (by omega) ?_ | (refine And.intro ?_ ?_; focus (simp only [IntKind.wrap_i64, IntKind.wrap_u64, IntKind.wrap_u32]; omega)) | (refine And.intro ?_ ?_; focus (first | (simp only [tblOf_len, List.length_map, List.length_append, List.length_cons, List.length_nil, List.length_take, List.length_drop, List.length_replicate]; omega) | (simp only [tblOf_len, List.length_map, List.length_append, List.length_cons, List.length_nil, List.length_take, List.length_drop, List.length_replicate]; done)))))
      conv => whnf
      refine ⟨by rw [happ2 _ _ _ (by simp; omega), hx], ?_⟩
      repeat ((conv => whnf); (first | refine Cnd.yes ?_ | refine Cnd.no ?_ | refine And.intro rfl ?_ | refine And.intro (by omega) ?_ | (refine And.intro ?_ ?_; focus (simp only [IntKind.wrap_i64, IntKind.wrap_u64, IntKind.wrap_u32]; omega)) | (refine And.intro ?_ ?_; focus (first | (simp only [tblOf_len, List.length_map, List.length_append, List.length_cons, List.length_nil, List.length_take, List.length_drop, List.length_replicate]; omega) | (simp only [tblOf_len, List.length_map, List.length_append, List.length_cons, List.length_nil, List.length_take, List.length_drop, List.length_replicate]; done)))))
      conv => whnf
      exact ⟨i + 1, by omega, rfl, rfl, (tmkK_eq _ _ _ _).mpr rfl, rfl⟩
    · have hin : i = l.length := by have := of_decide_eq_false hge; omega
      subst hin
      rw [List.take_length]
      repeat ((conv => whnf); (first | refine Cnd.yes ?_ | refine Cnd.no ?_ | refine And.intro rfl ?_ | refine And.intro (by omega) ?_ | (refine And.intro ?_ ?_; focus (simp only [IntKind.wrap_i64, IntKind.wrap_u64, IntKind.wrap_u32]; omega)) | (refine And.intro ?_ ?_; focus (first | (simp only [tblOf_len, List.length_map, List.length_append, List.length_cons, List.length_nil, List.length_take, List.length_drop, List.length_replicate]; omega) | (simp only [tblOf_len, List.length_map, List.length_append, List.length_cons, List.length_nil, List.length_take, List.length_drop, List.length_replicate]; done)))))
      conv => whnf
      exact hK
def intsS : Vc.Spec := fun args hp _ K => ∃ (e : TypeId) (o : Bool) (l : List Int), args = [.slc 0 1 0 l.length] ∧ hp = [.row o e [.int .i64] (l.map irow)] ∧ l.length ≤ 1000 ∧ K (.slc 1 1 0 l.length) [.row o e [.int .i64] (l.map irow), .row true 3 [.int .i64] (l.map irow)]
theorem ints_ok : SOK Tryd.prog 14 intsS := by
  refine TOK.weaken (runF_eq G2_ok mixed at14.1 at14.2 pf14_eq) fun args hp M K h => ?_
  obtain ⟨e, o, l, rfl, rfl, h1, h2⟩ := h
  exact ints_run M K e o l h1 h2
/-- How many at the front are less. -/
def posL (x : Int) : List Int → Nat | [] => 0 | y :: l => if y < x then posL x l + 1 else 0
theorem posL_le (x : Int) : ∀ l, posL x l ≤ l.length
  | [] => by simp [posL]
  | y :: l => by have := posL_le x l; simp only [posL, List.length_cons]; split <;> omega
theorem posL_is (x : Int) : ∀ (l : List Int) (k : Nat), k ≤ l.length → (∀ j, j < k → l.getD j 0 < x) → (k < l.length → ¬ l.getD k 0 < x) → posL x l = k
  | [], k, h, _, _ => by simp at h; simp [posL, h]
  | y :: l, 0, h, h1, h2 => by have := h2 (by simp); simp [List.getD] at this; simp [posL]; omega
  | y :: l, k + 1, h, h1, h2 => by
    have h0 := h1 0 (by omega)
    simp [List.getD] at h0
    rw [posL, if_pos h0, posL_is x l k (by simpa using h) (fun j hj => by have := h1 (j + 1) (by omega); simpa [List.getD] using this) (fun hk => by have := h2 (by simpa using hk); simpa [List.getD] using this)]
def insL (S : List Int) (x : Int) : List Int := if posL x S < S.length ∧ S.getD (posL x S) 0 = x then S else S.take (posL x S) ++ [x] ++ S.drop (posL x S)
def sortL (l : List Int) : List Int := l.foldl insL []
theorem insL_len (S : List Int) (x : Int) : (insL S x).length ≤ S.length + 1 := by
  unfold insL
  have := posL_le x S
  split
  · omega
  · simp; omega
theorem sortL_len_le (l : List Int) : ∀ S, (l.foldl insL S).length ≤ S.length + l.length := by
  induction l with
  | nil => intro S; simp
  | cons x l ih => intro S; have := ih (insL S x); have := insL_len S x; simp only [List.foldl_cons, List.length_cons]; omega
theorem insL_mem (S : List Int) (x y : Int) (h : y ∈ insL S x) : y ∈ S ∨ y = x := by
  unfold insL at h
  split at h
  · exact .inl h
  · simp only [List.mem_append, List.mem_cons, List.not_mem_nil, or_false] at h
    rcases h with (h | h) | h
    · exact .inl (List.mem_of_mem_take h)
    · exact .inr h
    · exact .inl (List.mem_of_mem_drop h)
theorem insL_new (S : List Int) (x : Int) (h : ¬ x ∈ S) : (insL S x).length = S.length + 1 := by
  unfold insL
  have hl := posL_le x S
  rw [if_neg]
  · simp; omega
  · rintro ⟨h1, h2⟩
    exact h (h2 ▸ by simp [List.getD, List.getElem?_eq_getElem h1])
theorem sortL_new (l : List Int) : ∀ S, l.Nodup → (∀ x ∈ l, ¬ x ∈ S) → (l.foldl insL S).length = S.length + l.length := by
  induction l with
  | nil => intro S _ _; simp
  | cons x l ih =>
    intro S hn hd
    have hn := List.nodup_cons.1 hn
    rw [List.foldl_cons, ih (insL S x) hn.2, insL_new S x (hd x (by simp)), List.length_cons]
    · omega
    · intro y hy hm
      rcases insL_mem S x y hm with h | h
      · exact hd y (by simp [hy]) h
      · exact hn.1 (h ▸ hy)
theorem sortL_nodup {l : List Int} (h : l.Nodup) : (sortL l).length = l.length := by
  rw [sortL, sortL_new l [] h (by simp)]
  simp
theorem sins_rows (S : List Int) (x : Int) {k : Nat} (hk : k ≤ S.length) : List.take (Int.toNat 0 + ((k : Int).toNat - ((0 : Nat) : Int).toNat) + 1) (List.drop 0 (List.take (Int.toNat 0 + ((k : Int).toNat - ((0 : Nat) : Int).toNat))
      (List.drop 0 (List.take (Int.toNat 0) (List.drop 0 (List.replicate (Int.toNat 0) [Value.int IntKind.i64 0])) ++ List.take ((k : Int).toNat - ((0 : Nat) : Int).toNat) (List.drop (0 + ((0 : Nat) : Int).toNat) (List.map irow S)))) ++
      List.take 1 (List.drop 0 [[Value.int IntKind.i64 x]]))) ++ List.take ((S.length : Int).toNat - (k : Int).toNat) (List.drop (0 + (k : Int).toNat) (List.map irow S)) = List.map irow (List.take k S ++ [x] ++ List.drop k S) := by
  have e : (S.map irow).take k = (S.take k).map irow := by rw [List.map_take]
  have e2 : (S.map irow).drop k = (S.drop k).map irow := by rw [List.map_drop]
  have l1 : ((S.take k).map irow).length = k := by simp; omega
  have l2 : ((S.drop k).map irow).length = S.length - k := by simp
  simp only [Int.toNat_natCast, Nat.zero_add, Nat.sub_zero, List.drop_zero, List.replicate_zero, List.take_nil, List.nil_append, Int.toNat_zero, e, e2]
  rw [List.take_of_length_le (l := (S.take k).map irow) (by omega), List.take_of_length_le (l := (S.drop k).map irow) (by omega)]
  rw [List.take_of_length_le (by rw [List.length_append, l1]; simp)]
  simp [irow]
def sHp (e : TypeId) (o : Bool) (l S : List Int) : List Ent := [.row o e [.int .i64] (l.map irow), .row true 3 [.int .i64] (S.map irow)]
set_option maxHeartbeats 4000000 in
theorem sorted_run (M : HL) (K : SV → List Ent → HL → Prop) (e : TypeId) (o : Bool) (l : List Int) (hl : l.length ≤ 1000) (hK : K (.slc 1 1 0 (sortL l).length) (sHp e o l (sortL l)) M) :
    runF G2 pf13 [.slc 0 1 0 l.length] [.row o e [.int .i64] (l.map irow)] M K := by
  repeat ((conv => whnf); (first | refine Cnd.yes ?_ | refine Cnd.no ?_ | refine And.intro rfl ?_ | refine And.intro (by omega) ?_ | (refine And.intro ?_ ?_; focus (simp only [IntKind.wrap_i64, IntKind.wrap_u64, IntKind.wrap_u32]; omega)) | (refine And.intro ?_ ?_; focus (first | (simp only [tblOf_len, List.length_map, List.length_append, List.length_cons, List.length_nil, List.length_take, List.length_drop, List.length_replicate]; omega) | (simp only [tblOf_len, List.length_map, List.length_append, List.length_cons, List.length_nil, List.length_take, List.length_drop, List.length_replicate]; done)))))
  conv => whnf
  refine ⟨fun cnt tm hp M' => ∃ i : Nat, i ≤ l.length ∧ cnt = l.length - i ∧ M' = M ∧ tmkK 66 0 [(0, .slc 0 1 0 l.length), (3, .slc 1 1 0 (sortL (l.take i)).length), (4, .v (.int .i64 i))] (fun l => tm = l) ∧ hp = sHp e o l (sortL (l.take i)),
    ⟨l.length, [0, 1], tmk 66 0 [(0, .slc 0 1 0 l.length), (3, .slc 1 1 0 0), (4, .v (.int .i64 (0 : Nat)))], sHp e o l [], ?_⟩, ?_⟩
  · repeat ((conv => whnf); (first | refine Cnd.yes ?_ | refine Cnd.no ?_ | refine And.intro rfl ?_ | refine And.intro (by omega) ?_ | (refine And.intro ?_ ?_; focus (simp only [IntKind.wrap_i64, IntKind.wrap_u64, IntKind.wrap_u32]; omega)) | (refine And.intro ?_ ?_; focus (first | (simp only [tblOf_len, List.length_map, List.length_append, List.length_cons, List.length_nil, List.length_take, List.length_drop, List.length_replicate]; omega) | (simp only [tblOf_len, List.length_map, List.length_append, List.length_cons, List.length_nil, List.length_take, List.length_drop, List.length_replicate]; done)))))
    conv => whnf
    exact ⟨0, by omega, by omega, rfl, (tmkK_eq _ _ _ _).mpr rfl, rfl⟩
  · rintro cnt tm hp M' ⟨i, hi, rfl, rfl, htm, rfl⟩
    conv at htm => whnf
    subst htm
    repeat ((conv => whnf); (first | refine Cnd.yes ?_ | refine Cnd.no ?_ | refine And.intro rfl ?_ | refine And.intro (by omega) ?_ | (refine And.intro ?_ ?_; focus (simp only [IntKind.wrap_i64, IntKind.wrap_u64, IntKind.wrap_u32]; omega)) | (refine And.intro ?_ ?_; focus (first | (simp only [tblOf_len, List.length_map, List.length_append, List.length_cons, List.length_nil, List.length_take, List.length_drop, List.length_replicate]; omega) | (simp only [tblOf_len, List.length_map, List.length_append, List.length_cons, List.length_nil, List.length_take, List.length_drop, List.length_replicate]; done)))))
    conv => whnf
    refine Cnd.mk (fun hlt => ?_) fun hge => ?_
    · have hin : i < l.length := by have := of_decide_eq_true hlt; omega
      have hSl := sortL_len_le (l.take i) []
      have hx : sortL (l.take (i + 1)) = insL (sortL (l.take i)) (l.getD i 0) := by
        rw [List.take_succ_eq_append_getElem (by omega), sortL, List.foldl_append]
        simp [List.getD, List.getElem?_eq_getElem hin, sortL]
      have hxi := toI_i hin
      rw [← sortL] at hSl
      generalize sortL (l.take i) = S at hSl hx
      simp only [List.length_nil, List.length_take] at hSl
      repeat ((conv => whnf); (first | refine Cnd.yes ?_ | refine Cnd.no ?_ | refine And.intro rfl ?_ | refine And.intro (by omega) ?_ | (refine And.intro ?_ ?_; focus (simp only [IntKind.wrap_i64, IntKind.wrap_u64, IntKind.wrap_u32]; omega)) | (refine And.intro ?_ ?_; focus (first | (simp only [tblOf_len, List.length_map, List.length_append, List.length_cons, List.length_nil, List.length_take, List.length_drop, List.length_replicate]; omega) | (simp only [tblOf_len, List.length_map, List.length_append, List.length_cons, List.length_nil, List.length_take, List.length_drop, List.length_replicate]; done)))))
      conv => whnf
      generalize hxx : l.getD i 0 = x at hx hxi
      refine ⟨fun cnt tm hp M1 => ∃ k : Nat, k ≤ S.length ∧ (∀ j, j < k → S.getD j 0 < x) ∧ cnt = S.length - k ∧ M1 = M' ∧ tmkK 66 0 [(0, .slc 0 1 0 l.length), (3, .slc 1 1 0 S.length), (4, .v (.int .i64 i)), (5, .v (.int .i64 k))] (fun l => tm = l) ∧ hp = sHp e o l S,
        ⟨S.length, [0, 1], tmk 66 0 [(0, .slc 0 1 0 l.length), (3, .slc 1 1 0 S.length), (4, .v (.int .i64 i)), (5, .v (.int .i64 (0 : Nat)))], sHp e o l S, ?_⟩, ?_⟩
      · repeat ((conv => whnf); (first | refine Cnd.yes ?_ | refine Cnd.no ?_ | refine And.intro rfl ?_ | refine And.intro (by omega) ?_ | (refine And.intro ?_ ?_; focus (simp only [IntKind.wrap_i64, IntKind.wrap_u64, IntKind.wrap_u32]; omega)) | (refine And.intro ?_ ?_; focus (first | (simp only [tblOf_len, List.length_map, List.length_append, List.length_cons, List.length_nil, List.length_take, List.length_drop, List.length_replicate]; omega) | (simp only [tblOf_len, List.length_map, List.length_append, List.length_cons, List.length_nil, List.length_take, List.length_drop, List.length_replicate]; done)))))
        conv => whnf
        exact ⟨0, by omega, fun j hj => by omega, by omega, rfl, (tmkK_eq _ _ _ _).mpr rfl, rfl⟩
      · rintro cnt tm hp M1 ⟨k, hk, hall, rfl, rfl, htm, rfl⟩
        conv at htm => whnf
        subst htm
        repeat ((conv => whnf); (first | refine Cnd.yes ?_ | refine Cnd.no ?_ | refine And.intro rfl ?_ | refine And.intro (by omega) ?_ | (refine And.intro ?_ ?_; focus (simp only [IntKind.wrap_i64, IntKind.wrap_u64, IntKind.wrap_u32]; omega)) | (refine And.intro ?_ ?_; focus (first | (simp only [tblOf_len, List.length_map, List.length_append, List.length_cons, List.length_nil, List.length_take, List.length_drop, List.length_replicate]; omega) | (simp only [tblOf_len, List.length_map, List.length_append, List.length_cons, List.length_nil, List.length_take, List.length_drop, List.length_replicate]; done)))))
        conv => whnf
        have hSx : ∀ h : k < S.length, toI (cellAt (S.map irow) (0 + (k : Int).toNat) 0) = S.getD k 0 := fun h => toI_i h
        by_cases hkl : k < S.length
        · refine Cnd.tt (decide_eq_true (by omega)) ?_
          repeat ((conv => whnf); (first | refine Cnd.yes ?_ | refine Cnd.no ?_ | refine And.intro rfl ?_ | refine And.intro (by omega) ?_ | (refine And.intro ?_ ?_; focus (simp only [IntKind.wrap_i64, IntKind.wrap_u64, IntKind.wrap_u32]; omega)) | (refine And.intro ?_ ?_; focus (first | (simp only [tblOf_len, List.length_map, List.length_append, List.length_cons, List.length_nil, List.length_take, List.length_drop, List.length_replicate]; omega) | (simp only [tblOf_len, List.length_map, List.length_append, List.length_cons, List.length_nil, List.length_take, List.length_drop, List.length_replicate]; done)))))
          conv => whnf
          rw [hSx hkl, hxi]
          by_cases hlt2 : S.getD k 0 < x
          · refine Cnd.tt (decide_eq_true hlt2) ?_
            repeat ((conv => whnf); (first | refine Cnd.yes ?_ | refine Cnd.no ?_ | refine And.intro rfl ?_ | refine And.intro (by omega) ?_ | (refine And.intro ?_ ?_; focus (simp only [IntKind.wrap_i64, IntKind.wrap_u64, IntKind.wrap_u32]; omega)) | (refine And.intro ?_ ?_; focus (first | (simp only [tblOf_len, List.length_map, List.length_append, List.length_cons, List.length_nil, List.length_take, List.length_drop, List.length_replicate]; omega) | (simp only [tblOf_len, List.length_map, List.length_append, List.length_cons, List.length_nil, List.length_take, List.length_drop, List.length_replicate]; done)))))
            conv => whnf
            refine ⟨S.length - (k + 1), [0, 1], tmk 66 0 [(0, .slc 0 1 0 l.length), (3, .slc 1 1 0 S.length), (4, .v (.int .i64 i)), (5, .v (.int .i64 (k + 1 : Nat)))], sHp e o l S, by omega, ?_⟩
            repeat ((conv => whnf); (first | refine Cnd.yes ?_ | refine Cnd.no ?_ | refine And.intro rfl ?_ | refine And.intro (by omega) ?_ | (refine And.intro ?_ ?_; focus (simp only [IntKind.wrap_i64, IntKind.wrap_u64, IntKind.wrap_u32]; omega)) | (refine And.intro ?_ ?_; focus (first | (simp only [tblOf_len, List.length_map, List.length_append, List.length_cons, List.length_nil, List.length_take, List.length_drop, List.length_replicate]; omega) | (simp only [tblOf_len, List.length_map, List.length_append, List.length_cons, List.length_nil, List.length_take, List.length_drop, List.length_replicate]; done)))))
            conv => whnf
            exact ⟨k + 1, by omega, fun j hj => by
              by_cases h : j = k
              · rw [h]; exact hlt2
              · exact hall j (by omega), rfl, rfl, (tmkK_eq _ _ _ _).mpr rfl, rfl⟩
          · refine Cnd.ff (decide_eq_false hlt2) ?_
            have hp : posL x S = k := posL_is x S k hk hall fun _ => hlt2
            repeat ((conv => whnf); (first | refine Cnd.yes ?_ | refine Cnd.no ?_ | refine And.intro rfl ?_ | refine And.intro (by omega) ?_ | (refine And.intro ?_ ?_; focus (simp only [IntKind.wrap_i64, IntKind.wrap_u64, IntKind.wrap_u32]; omega)) | (refine And.intro ?_ ?_; focus (first | (simp only [tblOf_len, List.length_map, List.length_append, List.length_cons, List.length_nil, List.length_take, List.length_drop, List.length_replicate]; omega) | (simp only [tblOf_len, List.length_map, List.length_append, List.length_cons, List.length_nil, List.length_take, List.length_drop, List.length_replicate]; done)))))
            conv => whnf
            refine Cnd.tt (decide_eq_true (by omega)) ?_
            repeat ((conv => whnf); (first | refine Cnd.yes ?_ | refine Cnd.no ?_ | refine And.intro rfl ?_ | refine And.intro (by omega) ?_ | (refine And.intro ?_ ?_; focus (simp only [IntKind.wrap_i64, IntKind.wrap_u64, IntKind.wrap_u32]; omega)) | (refine And.intro ?_ ?_; focus (first | (simp only [tblOf_len, List.length_map, List.length_append, List.length_cons, List.length_nil, List.length_take, List.length_drop, List.length_replicate]; omega) | (simp only [tblOf_len, List.length_map, List.length_append, List.length_cons, List.length_nil, List.length_take, List.length_drop, List.length_replicate]; done)))))
            conv => whnf
            rw [hSx hkl, hxi]
            by_cases heq : S.getD k 0 = x
            · refine Cnd.tt (by rw [heq]; simp) ?_
              repeat ((conv => whnf); (first | refine Cnd.yes ?_ | refine Cnd.no ?_ | refine And.intro rfl ?_ | refine And.intro (by omega) ?_ | (refine And.intro ?_ ?_; focus (simp only [IntKind.wrap_i64, IntKind.wrap_u64, IntKind.wrap_u32]; omega)) | (refine And.intro ?_ ?_; focus (first | (simp only [tblOf_len, List.length_map, List.length_append, List.length_cons, List.length_nil, List.length_take, List.length_drop, List.length_replicate]; omega) | (simp only [tblOf_len, List.length_map, List.length_append, List.length_cons, List.length_nil, List.length_take, List.length_drop, List.length_replicate]; done)))))
              conv => whnf
              rw [insL, hp, if_pos ⟨hkl, heq⟩] at hx
              refine ⟨l.length - (i + 1), [0, 1], tmk 66 0 [(0, .slc 0 1 0 l.length), (3, .slc 1 1 0 (sortL (l.take (i + 1))).length), (4, .v (.int .i64 (i + 1 : Nat)))], sHp e o l (sortL (l.take (i + 1))), by omega, ?_⟩
              rw [hx]
              repeat ((conv => whnf); (first | refine Cnd.yes ?_ | refine Cnd.no ?_ | refine And.intro rfl ?_ | refine And.intro (by omega) ?_ | (refine And.intro ?_ ?_; focus (simp only [IntKind.wrap_i64, IntKind.wrap_u64, IntKind.wrap_u32]; omega)) | (refine And.intro ?_ ?_; focus (first | (simp only [tblOf_len, List.length_map, List.length_append, List.length_cons, List.length_nil, List.length_take, List.length_drop, List.length_replicate]; omega) | (simp only [tblOf_len, List.length_map, List.length_append, List.length_cons, List.length_nil, List.length_take, List.length_drop, List.length_replicate]; done)))))
              conv => whnf
              exact ⟨i + 1, by omega, rfl, rfl, (tmkK_eq _ _ _ _).mpr (by rw [hx]), by rw [hx]⟩
            · refine Cnd.ff (by simpa using heq) ?_
              have hne : ¬ (k < S.length ∧ S.getD k 0 = x) := fun h => heq h.2
              have hins : insL S x = S.take k ++ [x] ++ S.drop k := by rw [insL, hp, if_neg hne]
              rw [hins] at hx
              repeat ((conv => whnf); (first | refine Cnd.yes ?_ | refine Cnd.no ?_ | refine And.intro rfl ?_ | refine And.intro (by omega) ?_ | (refine And.intro ?_ ?_; focus (simp only [IntKind.wrap_i64, IntKind.wrap_u64, IntKind.wrap_u32]; omega)) | (refine And.intro ?_ ?_; focus (first | (simp only [tblOf_len, List.length_map, List.length_append, List.length_cons, List.length_nil, List.length_take, List.length_drop, List.length_replicate]; omega) | (simp only [tblOf_len, List.length_map, List.length_append, List.length_cons, List.length_nil, List.length_take, List.length_drop, List.length_replicate]; done)))))
              conv => whnf
              intro Mr hMr
              repeat ((conv => whnf); (first | refine Cnd.yes ?_ | refine Cnd.no ?_ | refine And.intro rfl ?_ | refine And.intro (by omega) ?_ | (refine And.intro ?_ ?_; focus (simp only [IntKind.wrap_i64, IntKind.wrap_u64, IntKind.wrap_u32]; omega)) | (refine And.intro ?_ ?_; focus (first | (simp only [tblOf_len, List.length_map, List.length_append, List.length_cons, List.length_nil, List.length_take, List.length_drop, List.length_replicate]; omega) | (simp only [tblOf_len, List.length_map, List.length_append, List.length_cons, List.length_nil, List.length_take, List.length_drop, List.length_replicate]; done)))))
              conv => whnf
              rw [hxi]
              repeat ((conv => whnf); (first | refine Cnd.yes ?_ | refine Cnd.no ?_ | refine And.intro rfl ?_ | refine And.intro (by omega) ?_ | (refine And.intro ?_ ?_; focus (simp only [IntKind.wrap_i64, IntKind.wrap_u64, IntKind.wrap_u32]; omega)) | (refine And.intro ?_ ?_; focus (first | (simp only [tblOf_len, List.length_map, List.length_append, List.length_cons, List.length_nil, List.length_take, List.length_drop, List.length_replicate]; omega) | (simp only [tblOf_len, List.length_map, List.length_append, List.length_cons, List.length_nil, List.length_take, List.length_drop, List.length_replicate]; done)))))
              conv => whnf
              refine ⟨l.length - (i + 1), [0, 6], tmk 66 0 [(0, .slc 0 1 0 l.length), (3, .slc 1 1 0 (sortL (l.take (i + 1))).length), (4, .v (.int .i64 (i + 1 : Nat)))], sHp e o l (sortL (l.take (i + 1))), by omega, ?_⟩
              rw [hx]
              repeat ((conv => whnf); (first | refine Cnd.yes ?_ | refine Cnd.no ?_ | refine And.intro rfl ?_ | refine And.intro (by omega) ?_ | (refine And.intro ?_ ?_; focus (simp only [IntKind.wrap_i64, IntKind.wrap_u64, IntKind.wrap_u32]; omega)) | (refine And.intro ?_ ?_; focus (first | (simp only [tblOf_len, List.length_map, List.length_append, List.length_cons, List.length_nil, List.length_take, List.length_drop, List.length_replicate]; omega) | (simp only [tblOf_len, List.length_map, List.length_append, List.length_cons, List.length_nil, List.length_take, List.length_drop, List.length_replicate]; done)))))
              conv => whnf
              refine ⟨sins_rows S x hk, ?_⟩
              repeat ((conv => whnf); (first | refine Cnd.yes ?_ | refine Cnd.no ?_ | refine And.intro rfl ?_ | refine And.intro (by omega) ?_ | (refine And.intro ?_ ?_; focus (simp only [IntKind.wrap_i64, IntKind.wrap_u64, IntKind.wrap_u32]; omega)) | (refine And.intro ?_ ?_; focus (first | (simp only [tblOf_len, List.length_map, List.length_append, List.length_cons, List.length_nil, List.length_take, List.length_drop, List.length_replicate]; omega) | (simp only [tblOf_len, List.length_map, List.length_append, List.length_cons, List.length_nil, List.length_take, List.length_drop, List.length_replicate]; done)))))
              conv => whnf
              exact ⟨i + 1, by omega, rfl, rfl, (tmkK_eq _ _ _ _).mpr (by rw [hx]), by rw [hx]⟩
        · refine Cnd.ff (decide_eq_false (by omega)) ?_
          have hp : posL x S = k := posL_is x S k hk hall fun h => absurd h hkl
          have hne : ¬ (k < S.length ∧ S.getD k 0 = x) := fun h => hkl h.1
          repeat ((conv => whnf); (first | refine Cnd.yes ?_ | refine Cnd.no ?_ | refine And.intro rfl ?_ | refine And.intro (by omega) ?_ | (refine And.intro ?_ ?_; focus (simp only [IntKind.wrap_i64, IntKind.wrap_u64, IntKind.wrap_u32]; omega)) | (refine And.intro ?_ ?_; focus (first | (simp only [tblOf_len, List.length_map, List.length_append, List.length_cons, List.length_nil, List.length_take, List.length_drop, List.length_replicate]; omega) | (simp only [tblOf_len, List.length_map, List.length_append, List.length_cons, List.length_nil, List.length_take, List.length_drop, List.length_replicate]; done)))))
          conv => whnf
          refine Cnd.ff (decide_eq_false (by omega)) ?_
          have hins : insL S x = S.take k ++ [x] ++ S.drop k := by rw [insL, hp, if_neg hne]
          rw [hins] at hx
          repeat ((conv => whnf); (first | refine Cnd.yes ?_ | refine Cnd.no ?_ | refine And.intro rfl ?_ | refine And.intro (by omega) ?_ | (refine And.intro ?_ ?_; focus (simp only [IntKind.wrap_i64, IntKind.wrap_u64, IntKind.wrap_u32]; omega)) | (refine And.intro ?_ ?_; focus (first | (simp only [tblOf_len, List.length_map, List.length_append, List.length_cons, List.length_nil, List.length_take, List.length_drop, List.length_replicate]; omega) | (simp only [tblOf_len, List.length_map, List.length_append, List.length_cons, List.length_nil, List.length_take, List.length_drop, List.length_replicate]; done)))))
          conv => whnf
          intro Mr hMr
          repeat ((conv => whnf); (first | refine Cnd.yes ?_ | refine Cnd.no ?_ | refine And.intro rfl ?_ | refine And.intro (by omega) ?_ | (refine And.intro ?_ ?_; focus (simp only [IntKind.wrap_i64, IntKind.wrap_u64, IntKind.wrap_u32]; omega)) | (refine And.intro ?_ ?_; focus (first | (simp only [tblOf_len, List.length_map, List.length_append, List.length_cons, List.length_nil, List.length_take, List.length_drop, List.length_replicate]; omega) | (simp only [tblOf_len, List.length_map, List.length_append, List.length_cons, List.length_nil, List.length_take, List.length_drop, List.length_replicate]; done)))))
          conv => whnf
          rw [hxi]
          repeat ((conv => whnf); (first | refine Cnd.yes ?_ | refine Cnd.no ?_ | refine And.intro rfl ?_ | refine And.intro (by omega) ?_ | (refine And.intro ?_ ?_; focus (simp only [IntKind.wrap_i64, IntKind.wrap_u64, IntKind.wrap_u32]; omega)) | (refine And.intro ?_ ?_; focus (first | (simp only [tblOf_len, List.length_map, List.length_append, List.length_cons, List.length_nil, List.length_take, List.length_drop, List.length_replicate]; omega) | (simp only [tblOf_len, List.length_map, List.length_append, List.length_cons, List.length_nil, List.length_take, List.length_drop, List.length_replicate]; done)))))
          conv => whnf
          refine ⟨l.length - (i + 1), [0, 6], tmk 66 0 [(0, .slc 0 1 0 l.length), (3, .slc 1 1 0 (sortL (l.take (i + 1))).length), (4, .v (.int .i64 (i + 1 : Nat)))], sHp e o l (sortL (l.take (i + 1))), by omega, ?_⟩
          rw [hx]
          repeat ((conv => whnf); (first | refine Cnd.yes ?_ | refine Cnd.no ?_ | refine And.intro rfl ?_ | refine And.intro (by omega) ?_ | (refine And.intro ?_ ?_; focus (simp only [IntKind.wrap_i64, IntKind.wrap_u64, IntKind.wrap_u32]; omega)) | (refine And.intro ?_ ?_; focus (first | (simp only [tblOf_len, List.length_map, List.length_append, List.length_cons, List.length_nil, List.length_take, List.length_drop, List.length_replicate]; omega) | (simp only [tblOf_len, List.length_map, List.length_append, List.length_cons, List.length_nil, List.length_take, List.length_drop, List.length_replicate]; done)))))
          conv => whnf
          refine ⟨sins_rows S x hk, ?_⟩
          repeat ((conv => whnf); (first | refine Cnd.yes ?_ | refine Cnd.no ?_ | refine And.intro rfl ?_ | refine And.intro (by omega) ?_ | (refine And.intro ?_ ?_; focus (simp only [IntKind.wrap_i64, IntKind.wrap_u64, IntKind.wrap_u32]; omega)) | (refine And.intro ?_ ?_; focus (first | (simp only [tblOf_len, List.length_map, List.length_append, List.length_cons, List.length_nil, List.length_take, List.length_drop, List.length_replicate]; omega) | (simp only [tblOf_len, List.length_map, List.length_append, List.length_cons, List.length_nil, List.length_take, List.length_drop, List.length_replicate]; done)))))
          conv => whnf
          exact ⟨i + 1, by omega, rfl, rfl, (tmkK_eq _ _ _ _).mpr (by rw [hx]), by rw [hx]⟩
    · have hin : i = l.length := by have := of_decide_eq_false hge; omega
      subst hin
      rw [List.take_length]
      repeat ((conv => whnf); (first | refine Cnd.yes ?_ | refine Cnd.no ?_ | refine And.intro rfl ?_ | refine And.intro (by omega) ?_ | (refine And.intro ?_ ?_; focus (simp only [IntKind.wrap_i64, IntKind.wrap_u64, IntKind.wrap_u32]; omega)) | (refine And.intro ?_ ?_; focus (first | (simp only [tblOf_len, List.length_map, List.length_append, List.length_cons, List.length_nil, List.length_take, List.length_drop, List.length_replicate]; omega) | (simp only [tblOf_len, List.length_map, List.length_append, List.length_cons, List.length_nil, List.length_take, List.length_drop, List.length_replicate]; done)))))
      conv => whnf
      exact hK
def sortS : Vc.Spec := fun args hp _ K => ∃ (e : TypeId) (o : Bool) (l : List Int), args = [.slc 0 1 0 l.length] ∧ hp = [.row o e [.int .i64] (l.map irow)] ∧ l.length ≤ 1000 ∧ K (.slc 1 1 0 (sortL l).length) (sHp e o l (sortL l))
theorem sort_ok : SOK Tryd.prog 13 sortS := by
  refine TOK.weaken (runF_eq G2_ok mixed at13.1 at13.2 pf13_eq) fun args hp M K h => ?_
  obtain ⟨e, o, l, rfl, rfl, h1, h2⟩ := h
  exact sorted_run M K e o l h1 h2
noncomputable def specs3 : Nat → Option Vc.Trans := tget [(7, frameT numS), (28, frameT hasS), (24, frameT looseS), (9, frameT takeS), (8, frameT newS), (16, frameT undoS), (15, frameT allS), (11, frameT freeS), (14, frameT intsS), (13, frameT sortS)]
noncomputable def G3 : Nat → Option Vc.Trans := tabG specs3 (tget tab) 5
theorem G3_ok : GOK Tryd.prog G3 := tabG_ok (GOK.cons (frame_ok num_ok) (GOK.cons (frame_ok has_ok) (GOK.cons (frame_ok loose_ok) (GOK.cons (frame_ok take_ok) (GOK.cons (frame_ok new_ok) (GOK.cons (frame_ok undo_ok) (GOK.cons (frame_ok all_ok) (GOK.cons (frame_ok free_ok) (GOK.cons (frame_ok ints_ok) (GOK.cons (frame_ok sort_ok) .nil)))))))))) tab_ok 5
end Go.Proofs.YtlbjheknhoigpaaDoor
