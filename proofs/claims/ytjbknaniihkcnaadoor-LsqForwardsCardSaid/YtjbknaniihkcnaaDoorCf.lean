/-
  LsqForwards, walked.
-/
import Derived.Test.YtjbknaniihkcnaaDoorCe
namespace Go.Proofs.YtjbknaniihkcnaaDoor
open Go Go.Vc
set_option maxRecDepth 100000
set_option linter.unusedSimpArgs false
set_option linter.unusedVariables false
set_option maxHeartbeats 4000000
/-- What the queue is told. -/
structure Do where
  k : Int
  id : Int
  sz : Int
  st : Bool
  ad : Nat
  v : Nat
  y : Value
deriving Inhabited
def dck : List CK := [.int .i64, .int .i64, .int .i64, .bool, .int .u32, .int .u32, .sl]
def drow (d : Do) : List Value := [.int .i64 d.k, .int .i64 d.id, .int .i64 d.sz, .bool d.st, .int .u32 d.ad, .int .u32 d.v, d.y]
theorem cell_map {α : Type} (f : α → List Value) (l : List α) (d : α) {i : Nat} (hi : i < l.length) (k : Nat) : cellAt (l.map f) (0 + (i : Int).toNat) k = (f (l.getD i d)).getD k undef := by
  rw [Nat.zero_add, Int.toNat_natCast]
  simp [cellAt, List.getD, hi]
def szN (d : Do) : Nat := if d.sz % 3 = 0 then 1 else if d.sz % 3 = 1 then 2 else 4
def adN (d : Do) : Nat := d.ad % 16 - d.ad % 16 % szN d
theorem szN_in (d : Do) : szN d = 1 ∨ szN d = 2 ∨ szN d = 4 := by unfold szN; split; exact .inl rfl; split; exact .inr (.inl rfl); exact .inr (.inr rfl)
theorem adN_fit (d : Do) : adN d + szN d ≤ 16 ∧ adN d % szN d = 0 := by
  unfold adN
  rcases szN_in d with h | h | h <;> rw [h] <;> omega
theorem esz (d : Do) : toI (cellAt [[.int .i64 1], [.int .i64 2], [.int .i64 4]] (0 + (d.sz % 3).toNat) 0) = ((szN d : Nat) : Int) := by
  have h : d.sz % 3 = 0 ∨ d.sz % 3 = 1 ∨ d.sz % 3 = 2 := by omega
  unfold szN
  rcases h with h | h | h <;> rw [h] <;> rfl
theorem eandn (d : Do) : IntKind.u32.wrap ((BitVec.ofInt IntKind.u32.bits ((d.ad % 16 : Nat) : Int) &&& ~~~BitVec.ofInt IntKind.u32.bits (IntKind.u32.wrap (IntKind.i64.wrap (((szN d : Nat) : Int) - 1)))).toNat : Int) = ((adN d : Nat) : Int) := by
  have h : ∀ a : Fin 16, IntKind.u32.wrap ((BitVec.ofInt IntKind.u32.bits ((a.val : Nat) : Int) &&& ~~~BitVec.ofInt IntKind.u32.bits (IntKind.u32.wrap (IntKind.i64.wrap (((1 : Nat) : Int) - 1)))).toNat : Int) = ((a.val - a.val % 1 : Nat) : Int) ∧
      IntKind.u32.wrap ((BitVec.ofInt IntKind.u32.bits ((a.val : Nat) : Int) &&& ~~~BitVec.ofInt IntKind.u32.bits (IntKind.u32.wrap (IntKind.i64.wrap (((2 : Nat) : Int) - 1)))).toNat : Int) = ((a.val - a.val % 2 : Nat) : Int) ∧
      IntKind.u32.wrap ((BitVec.ofInt IntKind.u32.bits ((a.val : Nat) : Int) &&& ~~~BitVec.ofInt IntKind.u32.bits (IntKind.u32.wrap (IntKind.i64.wrap (((4 : Nat) : Int) - 1)))).toNat : Int) = ((a.val - a.val % 4 : Nat) : Int) := by decide +kernel
  have h := h ⟨d.ad % 16, Nat.mod_lt _ (by omega)⟩
  unfold adN
  rcases szN_in d with hs | hs | hs <;> rw [hs]
  · exact h.1
  · exact h.2.1
  · exact h.2.2
def accD (d : Do) : Acc := ⟨d.st, adN d, szN d, d.v⟩
def qOf (E : Nat → Acc) (j : Nat) : Q7 := ⟨j, (E j).st, true, (E j).st, (E j).ad, (E j).sz, if (E j).st then (E j).v else 0⟩
def LQ (E : Nat → Acc) (i : Nat) : List Q7 := (List.range i).map (qOf E)
theorem LQ_len (E : Nat → Acc) (i : Nat) : (LQ E i).length = i := by simp [LQ]
theorem LQ_succ (E : Nat → Acc) (i : Nat) : LQ E (i + 1) = LQ E i ++ [qOf E i] := by simp [LQ, List.range_succ]
theorem LQ_get (E : Nat → Acc) {i j : Nat} (h : j < i) : (LQ E i).getD j default = qOf E j := by simp [LQ, List.getD, h]
theorem LQ_mem {E : Nat → Acc} {i : Nat} {y : Q7} (h : y ∈ LQ E i) : ∃ j, j < i ∧ y = qOf E j := by
  obtain ⟨j, hj, rfl⟩ := List.mem_map.1 h
  exact ⟨j, List.mem_range.1 hj, rfl⟩
theorem LQ_last (E : Nat → Acc) (i : Nat) : lastId (LQ E i) < i := by
  cases i with
  | zero => show (-1 : Int) < 0; omega
  | succ i => rw [LQ_succ]; simp [lastId, qOf]; omega
def boolr (f : Nat → Bool) (j : Nat) : List Value := [.bool (f j)]
theorem boolr_zero (i : Nat) : List.replicate i [Value.bool false] = tblOf (boolr fun _ => false) i := by
  have h : (boolr fun _ => false) = fun _ => [Value.bool false] := rfl
  rw [h, tblOf, List.map_const', List.length_range]
theorem boolr_set (f : Nat → Bool) {k n : Nat} (h : k < n) : (tblOf (boolr f) n).set (0 + (k : Int).toNat) (over ((tblOf (boolr f) n).getD (0 + (k : Int).toNat) []) 0 [.bool true]) = tblOf (boolr fun j => if j = k then true else f j) n := by
  rw [Nat.zero_add, Int.toNat_natCast, tblOf_get _ h, tblOf_set _ h]
  refine tblOf_congr fun j _ => ?_
  simp only [boolr]
  by_cases hj : j = k
  · rw [if_pos hj, if_pos hj]; rfl
  · rw [if_neg hj, if_neg hj]
theorem boolr_get (f : Nat → Bool) {k n : Nat} (h : k < n) : toB (cellAt (tblOf (boolr f) n) (0 + (k : Int).toNat) 0) = f k := by
  rw [Nat.zero_add, Int.toNat_natCast, tblOf_cell _ h]
  rfl
def tchK (f : Nat → Bool) (ad k : Nat) : Nat → Bool := fun b => if ad ≤ b ∧ b < ad + k then true else f b
theorem tchK_zero (f : Nat → Bool) (ad : Nat) : tchK f ad 0 = f := by
  funext b
  unfold tchK
  rw [if_neg (by omega)]
theorem tchK_next (f : Nat → Bool) (ad k : Nat) : (fun j => if j = ad + k then true else tchK f ad k j) = tchK f ad (k + 1) := by
  funext j
  unfold tchK
  by_cases h : j = ad + k
  · rw [if_pos h, if_pos (by omega)]
  · rw [if_neg h]
    by_cases h2 : ad ≤ j ∧ j < ad + k
    · rw [if_pos h2, if_pos (by omega)]
    · rw [if_neg h2, if_neg (by omega)]
theorem tchK_all (E : Nat → Acc) {i : Nat} (h : (E i).st = true) : tchK (tchF E i) (E i).ad (E i).sz = tchF E (i + 1) := by
  funext b
  show (if _ then _ else _) = (if _ then _ else _)
  by_cases h2 : (E i).ad ≤ b ∧ b < (E i).ad + (E i).sz
  · rw [if_pos h2, if_pos ⟨h, h2⟩]
  · rw [if_neg h2, if_neg fun h3 => h2 h3.2]
theorem w_ea {a k : Nat} (h : a + k ≤ 16) : IntKind.i64.wrap (IntKind.i64.wrap ((a : Nat) : Int) + (k : Int)) = ((a + k : Nat) : Int) := by simp only [IntKind.wrap_i64]; omega
theorem any_step {f : Nat → Bool} {a k : Nat} (hn : ∀ j, j < k → f (a + j) ≠ true) : f (a + k) = true ↔ ∃ j, j < k + 1 ∧ f (a + j) = true := by
  constructor
  · intro h
    exact ⟨k, by omega, h⟩
  · rintro ⟨j, hj, h⟩
    rcases Nat.lt_succ_iff_lt_or_eq.1 hj with h1 | rfl
    · exact absurd h (hn j h1)
    · exact h
theorem any_true {f : Nat → Bool} {a k : Nat} (h : ∃ j, j < k ∧ f (a + j) = true) : true = true ↔ ∃ j, j < k + 1 ∧ f (a + j) = true := ⟨fun _ => by obtain ⟨j, hj, h⟩ := h; exact ⟨j, by omega, h⟩, fun _ => rfl⟩
theorem qfit {d : Do} (hd : d.ad < 4294967296 ∧ d.v < 4294967296) (j : Int) : Fit7 ⟨j, (accD d).st, true, (accD d).st, (accD d).ad, (accD d).sz, if (accD d).st then ((accD d).v : Int) else 0⟩ := by
  have h1 := szN_in d
  have h2 := adN_fit d
  unfold Fit7 accD
  simp only
  refine ⟨by omega, by omega, by omega, by omega, ?_⟩
  split <;> omega
theorem answers {E : Nat → Acc} {i ad sz : Nat} (h0 : 0 < sz) (hE : ∀ j, j < i → 0 < (E j).sz) {kd v id : Int} {any : Bool} (hA : AheadOK (LQ E i) (Q7.mk i false true false ad sz 0) kd v id) (hany : any = true ↔ ∃ j, j < sz ∧ tchF E i (ad + j) = true) :
    (kd = 0 ∧ any = false) ∨ (kd = 2 ∧ any = true) ∨ (kd = 1 ∧ any = true ∧ v = (getN (memF E i) ad sz : Nat)) := by
  rw [any_iff] at hany
  have hh : ∀ j, j < i → (hit ((LQ E i).getD j default) (Q7.mk i false true false ad sz 0) ↔ ((E j).st = true ∧ (E j).ad < ad + sz ∧ ad < (E j).ad + (E j).sz)) := fun j hj => by
    rw [LQ_get E hj]
    unfold hit qOf
    simp only
    exact ⟨fun ⟨a, b, c⟩ => ⟨a, by omega, by omega⟩, fun ⟨a, b, c⟩ => ⟨a, by omega, by omega⟩⟩
  rcases hA with ⟨h1, _, _, h4⟩ | ⟨j, hj, h1, h2, _, h5⟩
  · refine .inl ⟨h1, ?_⟩
    cases any with
    | false => rfl
    | true =>
      obtain ⟨j, g1, g2, _, g4, g5, _⟩ := hany.1 rfl
      exact absurd ((hh j g1).2 ⟨g2, g4, g5⟩) (h4 j (by rw [LQ_len]; exact g1))
  · rw [LQ_len] at hj h2
    have hj1 := (hh j hj).1 h1
    have ha : any = true := hany.2 ⟨j, hj, hj1.1, h0, hj1.2.1, hj1.2.2, hE j hj⟩
    rcases h5 with ⟨h6, _, _⟩ | ⟨h6, h7, h8⟩
    · exact .inr (.inl ⟨h6, ha⟩)
    · refine .inr (.inr ⟨h6, ha, ?_⟩)
      rw [LQ_get E hj] at h7 h8
      simp only [qOf] at h7 h8
      rw [if_pos hj1.1] at h8
      rw [h8, whole_eq E hj hj1.1 (by omega) (by omega) fun k g1 g2 g3 => h2 k g1 g2 ((hh k g2).2 g3)]
      rw [Int.toNat_natCast, Int.toNat_natCast, show ((ad : Int) - ((E j).ad : Nat)).toNat = ad - (E j).ad by omega]
def fHp (e : TypeId) (ds : List Do) (E : Nat → Acc) (i : Nat) : List Ent := [.row false e dck (ds.map drow), .cells 56 [.v (.int .i64 64), .slc 2 7 0 i], .row true 61 qck ((LQ E i).map qrow ++ []), .cells 59 [.slc 4 1 0 16], .row true 5 [.int .u8] (bT (memF E i) 16), .row true 4 [.bool] (tblOf (boolr (tchF E i)) 16)]
theorem forwards_run (M : HL) (K : SV → List Ent → HL → Prop) (e : TypeId) (ds : List Do) (hd : ∀ d ∈ ds, d.ad < 4294967296 ∧ d.v < 4294967296) (hK : ∀ hp, K (.v (.bool true)) hp M) :
    runF GF pf3 [.slc 0 7 0 ds.length] [.row false e dck (ds.map drow)] M K := by
  repeat ((conv => whnf); (first | refine Cnd.yes ?_ | refine Cnd.no ?_ | refine And.intro rfl ?_ | refine And.intro (by omega) ?_ | (refine And.intro ?_ ?_; focus (simp only [IntKind.wrap_i64, IntKind.wrap_u64, IntKind.wrap_u32]; omega)) | (refine And.intro ?_ ?_; focus (simp only [zl1, zl2, zl3, zl4, zl5, zl6, zl7, zl8, zl9] <;> omega)) | (refine Cnd.tt ?_ ?_; focus (first | (apply decide_eq_true; omega) | (simp only [zq1, zq2, zq3, zq4, zq5, zq6, zq7, zq8, zq9, zq10, zq11, zq12] <;> omega) | rfl)) | (refine Cnd.ff ?_ ?_; focus (first | (apply decide_eq_false; omega) | (simp only [zq1, zq2, zq3, zq4, zq5, zq6, zq7, zq8, zq9, zq10, zq11, zq12] <;> omega) | rfl))))
  conv => whnf
  by_cases hbig : 30 < ds.length
  · repeat ((conv => whnf); (first | refine Cnd.yes ?_ | refine Cnd.no ?_ | refine And.intro rfl ?_ | refine And.intro (by omega) ?_ | (refine And.intro ?_ ?_; focus (simp only [IntKind.wrap_i64, IntKind.wrap_u64, IntKind.wrap_u32]; omega)) | (refine And.intro ?_ ?_; focus (simp only [zl1, zl2, zl3, zl4, zl5, zl6, zl7, zl8, zl9] <;> omega)) | (refine Cnd.tt ?_ ?_; focus (first | (apply decide_eq_true; omega) | (simp only [zq1, zq2, zq3, zq4, zq5, zq6, zq7, zq8, zq9, zq10, zq11, zq12] <;> omega) | rfl)) | (refine Cnd.ff ?_ ?_; focus (first | (apply decide_eq_false; omega) | (simp only [zq1, zq2, zq3, zq4, zq5, zq6, zq7, zq8, zq9, zq10, zq11, zq12] <;> omega) | rfl))))
    conv => whnf
    exact hK _
  · obtain ⟨E, hE⟩ : ∃ E : Nat → Acc, E = fun j => accD (ds.getD j default) := ⟨_, rfl⟩
    repeat ((conv => whnf); (first | refine Cnd.yes ?_ | refine Cnd.no ?_ | refine And.intro rfl ?_ | refine And.intro (by omega) ?_ | (refine And.intro ?_ ?_; focus (simp only [IntKind.wrap_i64, IntKind.wrap_u64, IntKind.wrap_u32]; omega)) | (refine And.intro ?_ ?_; focus (simp only [zl1, zl2, zl3, zl4, zl5, zl6, zl7, zl8, zl9] <;> omega)) | (refine Cnd.tt ?_ ?_; focus (first | (apply decide_eq_true; omega) | (simp only [zq1, zq2, zq3, zq4, zq5, zq6, zq7, zq8, zq9, zq10, zq11, zq12] <;> omega) | rfl)) | (refine Cnd.ff ?_ ?_; focus (first | (apply decide_eq_false; omega) | (simp only [zq1, zq2, zq3, zq4, zq5, zq6, zq7, zq8, zq9, zq10, zq11, zq12] <;> omega) | rfl))))
    conv => whnf
    refine ⟨64, rfl, rfl, by omega, by omega, ?_⟩
    repeat ((conv => whnf); (first | refine Cnd.yes ?_ | refine Cnd.no ?_ | refine And.intro rfl ?_ | refine And.intro (by omega) ?_ | (refine And.intro ?_ ?_; focus (simp only [IntKind.wrap_i64, IntKind.wrap_u64, IntKind.wrap_u32]; omega)) | (refine And.intro ?_ ?_; focus (simp only [zl1, zl2, zl3, zl4, zl5, zl6, zl7, zl8, zl9] <;> omega)) | (refine Cnd.tt ?_ ?_; focus (first | (apply decide_eq_true; omega) | (simp only [zq1, zq2, zq3, zq4, zq5, zq6, zq7, zq8, zq9, zq10, zq11, zq12] <;> omega) | rfl)) | (refine Cnd.ff ?_ ?_; focus (first | (apply decide_eq_false; omega) | (simp only [zq1, zq2, zq3, zq4, zq5, zq6, zq7, zq8, zq9, zq10, zq11, zq12] <;> omega) | rfl))))
    conv => whnf
    refine ⟨InvS 175 (fun s : Nat => ds.length - s) (fun s : Nat => s ≤ ds.length) (fun s : Nat => [(0, .slc 0 7 0 ds.length), (4, .ptr 1 0 0 0), (6, .ptr 3 0 0 0), (8, .slc 5 1 0 16), (9, .v (.int .i64 s))]) (fun s : Nat => fHp e ds E s) M, ⟨(fun s : Nat => ds.length - s) 0, [0, 1, 2, 3, 4, 5], tmk 175 0 ((fun s : Nat => [(0, .slc 0 7 0 ds.length), (4, .ptr 1 0 0 0), (6, .ptr 3 0 0 0), (8, .slc 5 1 0 16), (9, .v (.int .i64 s))]) 0), (fun s : Nat => fHp e ds E s) 0, ?_⟩, ?_⟩
    · repeat ((conv => whnf); (first | refine Cnd.yes ?_ | refine Cnd.no ?_ | refine And.intro rfl ?_ | refine And.intro (by omega) ?_ | (refine And.intro ?_ ?_; focus (simp only [IntKind.wrap_i64, IntKind.wrap_u64, IntKind.wrap_u32]; omega)) | (refine And.intro ?_ ?_; focus (simp only [zl1, zl2, zl3, zl4, zl5, zl6, zl7, zl8, zl9] <;> omega))))
      conv => whnf
      exact ⟨0, Nat.zero_le _, rfl, rfl, (tmkK_eq _ _ _ _).mpr rfl, rfl⟩
    · rintro cnt tm hp M1 ⟨i, hC_, rfl, rfl, htm, hhp_⟩
      replace hC_ : i ≤ ds.length := hC_
      have hi := hC_
      replace htm : tmkK 175 0 [(0, .slc 0 7 0 ds.length), (4, .ptr 1 0 0 0), (6, .ptr 3 0 0 0), (8, .slc 5 1 0 16), (9, .v (.int .i64 i))] (fun l => tm = l) := htm
      conv at htm => whnf
      subst htm
      replace hhp_ : hp = fHp e ds E i := hhp_
      subst hhp_
      repeat ((conv => whnf); (first | refine Cnd.yes ?_ | refine Cnd.no ?_ | refine And.intro rfl ?_ | refine And.intro (by omega) ?_ | (refine And.intro ?_ ?_; focus (simp only [IntKind.wrap_i64, IntKind.wrap_u64, IntKind.wrap_u32]; omega)) | (refine And.intro ?_ ?_; focus (simp only [zl1, zl2, zl3, zl4, zl5, zl6, zl7, zl8, zl9] <;> omega)) | (refine Cnd.tt ?_ ?_; focus (first | (apply decide_eq_true; omega) | (simp only [zq1, zq2, zq3, zq4, zq5, zq6, zq7, zq8, zq9, zq10, zq11, zq12] <;> omega) | rfl)) | (refine Cnd.ff ?_ ?_; focus (first | (apply decide_eq_false; omega) | (simp only [zq1, zq2, zq3, zq4, zq5, zq6, zq7, zq8, zq9, zq10, zq11, zq12] <;> omega) | rfl))))
      conv => whnf
      refine Cnd.mk (fun hlt => ?_) fun hge => ?_
      · have hin : i < ds.length := by have := of_decide_eq_true hlt; omega
        have hc := fun k => cell_map drow ds default hin k
        have hdi := hd (ds.getD i default) (by simp [List.getD, hin])
        have hEi : E i = accD (ds.getD i default) := by rw [hE]
        generalize ds.getD i default = d at *
        have hsz := szN_in d
        have hfit := adN_fit d
        have c2 : toI (cellAt (ds.map drow) (0 + (i : Int).toNat) (0 + 2)) = d.sz := by rw [hc]; rfl
        have c3 : toB (cellAt (ds.map drow) (0 + (i : Int).toNat) (0 + 3)) = d.st := by rw [hc]; rfl
        have c4 : toI (cellAt (ds.map drow) (0 + (i : Int).toNat) (0 + 4)) = (d.ad : Nat) := by rw [hc]; rfl
        have c5 : toI (cellAt (ds.map drow) (0 + (i : Int).toNat) (0 + 5)) = (d.v : Nat) := by rw [hc]; rfl
        have e16 : ((d.ad : Nat) : Int).tmod 16 = ((d.ad % 16 : Nat) : Int) := by rw [Int.tmod_eq_emod_of_nonneg (by omega)]; omega
        repeat ((conv => whnf); (first | refine Cnd.yes ?_ | refine Cnd.no ?_ | refine And.intro rfl ?_ | refine And.intro (by omega) ?_ | (refine And.intro ?_ ?_; focus (simp only [IntKind.wrap_i64, IntKind.wrap_u64, IntKind.wrap_u32]; omega)) | (refine And.intro ?_ ?_; focus (simp only [zl1, zl2, zl3, zl4, zl5, zl6, zl7, zl8, zl9] <;> omega)) | (refine Cnd.tt ?_ ?_; focus (first | (apply decide_eq_true; omega) | (simp only [zq1, zq2, zq3, zq4, zq5, zq6, zq7, zq8, zq9, zq10, zq11, zq12] <;> omega) | rfl)) | (refine Cnd.ff ?_ ?_; focus (first | (apply decide_eq_false; omega) | (simp only [zq1, zq2, zq3, zq4, zq5, zq6, zq7, zq8, zq9, zq10, zq11, zq12] <;> omega) | rfl))))
        conv => whnf
        rw [c2]
        refine ⟨d.sz, 3, rfl, by omega, by omega, ?_⟩
        repeat ((conv => whnf); (first | refine Cnd.yes ?_ | refine Cnd.no ?_ | refine And.intro rfl ?_ | refine And.intro (by omega) ?_ | (refine And.intro ?_ ?_; focus (simp only [IntKind.wrap_i64, IntKind.wrap_u64, IntKind.wrap_u32]; omega)) | (refine And.intro ?_ ?_; focus (simp only [zl1, zl2, zl3, zl4, zl5, zl6, zl7, zl8, zl9] <;> omega)) | (refine Cnd.tt ?_ ?_; focus (first | (apply decide_eq_true; omega) | (simp only [zq1, zq2, zq3, zq4, zq5, zq6, zq7, zq8, zq9, zq10, zq11, zq12] <;> omega) | rfl)) | (refine Cnd.ff ?_ ?_; focus (first | (apply decide_eq_false; omega) | (simp only [zq1, zq2, zq3, zq4, zq5, zq6, zq7, zq8, zq9, zq10, zq11, zq12] <;> omega) | rfl))))
        conv => whnf
        rw [esz d, c4, e16, eandn d, c3]
        refine ⟨64, i, d.st, LQ E i, [], rfl, by rw [qHp, LQ_len]; rfl, by rw [LQ_len]; omega, by omega, LQ_last E i, ?_⟩
        rw [LQ_len, List.map_append]
        repeat ((conv => whnf); (first | refine Cnd.yes ?_ | refine Cnd.no ?_ | refine And.intro rfl ?_ | refine And.intro (by omega) ?_ | (refine And.intro ?_ ?_; focus (simp only [IntKind.wrap_i64, IntKind.wrap_u64, IntKind.wrap_u32]; omega)) | (refine And.intro ?_ ?_; focus (simp only [zl1, zl2, zl3, zl4, zl5, zl6, zl7, zl8, zl9] <;> omega)) | (refine Cnd.tt ?_ ?_; focus (first | (apply decide_eq_true; omega) | (simp only [zq1, zq2, zq3, zq4, zq5, zq6, zq7, zq8, zq9, zq10, zq11, zq12] <;> omega) | rfl)) | (refine Cnd.ff ?_ ?_; focus (first | (apply decide_eq_false; omega) | (simp only [zq1, zq2, zq3, zq4, zq5, zq6, zq7, zq8, zq9, zq10, zq11, zq12] <;> omega) | rfl))))
        conv => whnf
        refine ⟨64, i, adN d, szN d, LQ E i, ⟨i, d.st, false, false, 0, 0, 0⟩, [], i + 1, rfl, rfl, by rw [LQ_len]; omega, by rw [LQ_len]; simp, by omega, rfl, fun y hy => ?_, rfl, by omega, by omega, by omega, by omega, ?_⟩
        · obtain ⟨j, hj, rfl⟩ := LQ_mem hy
          show (j : Int) ≠ i
          omega
        repeat ((conv => whnf); (first | refine Cnd.yes ?_ | refine Cnd.no ?_ | refine And.intro rfl ?_ | refine And.intro (by omega) ?_ | (refine And.intro ?_ ?_; focus (simp only [IntKind.wrap_i64, IntKind.wrap_u64, IntKind.wrap_u32]; omega)) | (refine And.intro ?_ ?_; focus (simp only [zl1, zl2, zl3, zl4, zl5, zl6, zl7, zl8, zl9] <;> omega)) | (refine Cnd.tt ?_ ?_; focus (first | (apply decide_eq_true; omega) | (simp only [zq1, zq2, zq3, zq4, zq5, zq6, zq7, zq8, zq9, zq10, zq11, zq12] <;> omega) | rfl)) | (refine Cnd.ff ?_ ?_; focus (first | (apply decide_eq_false; omega) | (simp only [zq1, zq2, zq3, zq4, zq5, zq6, zq7, zq8, zq9, zq10, zq11, zq12] <;> omega) | rfl))))
        conv => whnf
        rw [c3]
        have hB : hasB 16 (adN d) ((szN d : Nat) : Int) = true := by
          unfold hasB fairB
          rw [Int.toNat_natCast, decide_eq_true (by omega), decide_eq_true (by omega)]
          rfl
        have hne : ∀ y ∈ LQ E i, y.id ≠ (i : Int) := fun y hy => by
          obtain ⟨j, hj, rfl⟩ := LQ_mem hy
          show (j : Int) ≠ i
          omega
        cases hst : d.st with
        | true =>
          have hq : (LQ E i).map qrow ++ [qrow (Q7.mk i true true true (adN d) (szN d) d.v)] = (LQ E (i + 1)).map qrow ++ [] := by
            rw [List.append_nil, LQ_succ, List.map_append]
            simp [qOf, hEi, accD, hst]
          have hm : putC (memF E i) (adN d) (szN d) d.v = memF E (i + 1) := by
            show _ = if (E i).st then putC (memF E i) (E i).ad (E i).sz (E i).v else memF E i
            rw [hEi]
            simp [accD, hst]
          have ht : tchK (tchF E i) (adN d) (szN d) = tchF E (i + 1) := by
            have := tchK_all E (i := i) (by rw [hEi]; exact hst)
            rw [hEi] at this
            exact this
          repeat ((conv => whnf); (first | refine Cnd.yes ?_ | refine Cnd.no ?_ | refine And.intro rfl ?_ | refine And.intro (by omega) ?_ | (refine And.intro ?_ ?_; focus (simp only [IntKind.wrap_i64, IntKind.wrap_u64, IntKind.wrap_u32]; omega)) | (refine And.intro ?_ ?_; focus (simp only [zl1, zl2, zl3, zl4, zl5, zl6, zl7, zl8, zl9] <;> omega)) | (refine Cnd.tt ?_ ?_; focus (first | (apply decide_eq_true; omega) | (simp only [zq1, zq2, zq3, zq4, zq5, zq6, zq7, zq8, zq9, zq10, zq11, zq12] <;> omega) | rfl)) | (refine Cnd.ff ?_ ?_; focus (first | (apply decide_eq_false; omega) | (simp only [zq1, zq2, zq3, zq4, zq5, zq6, zq7, zq8, zq9, zq10, zq11, zq12] <;> omega) | rfl))))
          conv => whnf
          rw [c5]
          refine ⟨64, i, d.v, LQ E i, Q7.mk i true true false (adN d) (szN d) 0, [], i + 1, rfl, rfl, by rw [LQ_len]; omega, by rw [LQ_len]; simp, by omega, rfl, hne, rfl, rfl, ?_⟩
          repeat ((conv => whnf); (first | refine Cnd.yes ?_ | refine Cnd.no ?_ | refine And.intro rfl ?_ | refine And.intro (by omega) ?_ | (refine And.intro ?_ ?_; focus (simp only [IntKind.wrap_i64, IntKind.wrap_u64, IntKind.wrap_u32]; omega)) | (refine And.intro ?_ ?_; focus (simp only [zl1, zl2, zl3, zl4, zl5, zl6, zl7, zl8, zl9] <;> omega)) | (refine Cnd.tt ?_ ?_; focus (first | (apply decide_eq_true; omega) | (simp only [zq1, zq2, zq3, zq4, zq5, zq6, zq7, zq8, zq9, zq10, zq11, zq12] <;> omega) | rfl)) | (refine Cnd.ff ?_ ?_; focus (first | (apply decide_eq_false; omega) | (simp only [zq1, zq2, zq3, zq4, zq5, zq6, zq7, zq8, zq9, zq10, zq11, zq12] <;> omega) | rfl))))
          conv => whnf
          rw [c5]
          refine ⟨16, adN d, d.v, memF E i, szN d, rfl, rfl, by omega, by omega, hdi.2, ?_⟩
          rw [hB, show storeC 16 (adN d) ((szN d : Nat) : Int) d.v (memF E i) = memF E (i + 1) by rw [storeC, hB, if_pos rfl, Int.toNat_natCast, hm]]
          repeat ((conv => whnf); (first | refine Cnd.yes ?_ | refine Cnd.no ?_ | refine And.intro rfl ?_ | refine And.intro (by omega) ?_ | (refine And.intro ?_ ?_; focus (simp only [IntKind.wrap_i64, IntKind.wrap_u64, IntKind.wrap_u32]; omega)) | (refine And.intro ?_ ?_; focus (simp only [zl1, zl2, zl3, zl4, zl5, zl6, zl7, zl8, zl9] <;> omega)) | (refine Cnd.tt ?_ ?_; focus (first | (apply decide_eq_true; omega) | (simp only [zq1, zq2, zq3, zq4, zq5, zq6, zq7, zq8, zq9, zq10, zq11, zq12] <;> omega) | rfl)) | (refine Cnd.ff ?_ ?_; focus (first | (apply decide_eq_false; omega) | (simp only [zq1, zq2, zq3, zq4, zq5, zq6, zq7, zq8, zq9, zq10, zq11, zq12] <;> omega) | rfl))))
          conv => whnf
          refine ⟨InvS 175 (fun s : Nat => szN d - s) (fun s : Nat => s ≤ szN d) (fun s : Nat => [(0, .slc 0 7 0 ds.length), (4, .ptr 1 0 0 0), (6, .ptr 3 0 0 0), (8, .slc 5 1 0 16), (9, .v (.int .i64 i)), (10, .v (.int .i64 (szN d))), (11, .v (.int .u32 (adN d))), (12, .v (.int .i64 s))]) (fun s : Nat => [Ent.row false e dck (ds.map drow), .cells 56 [.v (.int .i64 64), .slc 2 7 0 (i + 1)], .row true 61 qck ((LQ E (i + 1)).map qrow ++ []), .cells 59 [.slc 4 1 0 16], .row true 5 [.int .u8] (bT (memF E (i + 1)) 16), .row true 4 [.bool] (tblOf (boolr (tchK (tchF E i) (adN d) s)) 16)]) M1, ⟨(fun s : Nat => szN d - s) 0, [0, 1, 7, 3, 4, 5], tmk 175 0 ((fun s : Nat => [(0, .slc 0 7 0 ds.length), (4, .ptr 1 0 0 0), (6, .ptr 3 0 0 0), (8, .slc 5 1 0 16), (9, .v (.int .i64 i)), (10, .v (.int .i64 (szN d))), (11, .v (.int .u32 (adN d))), (12, .v (.int .i64 s))]) 0), (fun s : Nat => [Ent.row false e dck (ds.map drow), .cells 56 [.v (.int .i64 64), .slc 2 7 0 (i + 1)], .row true 61 qck ((LQ E (i + 1)).map qrow ++ []), .cells 59 [.slc 4 1 0 16], .row true 5 [.int .u8] (bT (memF E (i + 1)) 16), .row true 4 [.bool] (tblOf (boolr (tchK (tchF E i) (adN d) s)) 16)]) 0, ?_⟩, ?_⟩
          · repeat ((conv => whnf); (first | refine Cnd.yes ?_ | refine Cnd.no ?_ | refine And.intro rfl ?_ | refine And.intro (by omega) ?_ | (refine And.intro ?_ ?_; focus (simp only [IntKind.wrap_i64, IntKind.wrap_u64, IntKind.wrap_u32]; omega)) | (refine And.intro ?_ ?_; focus (simp only [zl1, zl2, zl3, zl4, zl5, zl6, zl7, zl8, zl9] <;> omega))))
            conv => whnf
            refine ⟨by rw [tchK_zero], ?_⟩
            repeat ((conv => whnf); (first | refine Cnd.yes ?_ | refine Cnd.no ?_ | refine And.intro rfl ?_ | refine And.intro (by omega) ?_ | (refine And.intro ?_ ?_; focus (simp only [IntKind.wrap_i64, IntKind.wrap_u64, IntKind.wrap_u32]; omega)) | (refine And.intro ?_ ?_; focus (simp only [zl1, zl2, zl3, zl4, zl5, zl6, zl7, zl8, zl9] <;> omega))))
            conv => whnf
            exact ⟨0, Nat.zero_le _, rfl, rfl, (tmkK_eq _ _ _ _).mpr rfl, rfl⟩
          · rintro cnt tm hp M1 ⟨k, hC_, rfl, rfl, htm, hhp_⟩
            replace hC_ : k ≤ szN d := hC_
            have hk := hC_
            replace htm : tmkK 175 0 [(0, .slc 0 7 0 ds.length), (4, .ptr 1 0 0 0), (6, .ptr 3 0 0 0), (8, .slc 5 1 0 16), (9, .v (.int .i64 i)), (10, .v (.int .i64 (szN d))), (11, .v (.int .u32 (adN d))), (12, .v (.int .i64 k))] (fun l => tm = l) := htm
            conv at htm => whnf
            subst htm
            replace hhp_ : hp = [Ent.row false e dck (ds.map drow), .cells 56 [.v (.int .i64 64), .slc 2 7 0 (i + 1)], .row true 61 qck ((LQ E (i + 1)).map qrow ++ []), .cells 59 [.slc 4 1 0 16], .row true 5 [.int .u8] (bT (memF E (i + 1)) 16), .row true 4 [.bool] (tblOf (boolr (tchK (tchF E i) (adN d) k)) 16)] := hhp_
            subst hhp_
            repeat ((conv => whnf); (first | refine Cnd.yes ?_ | refine Cnd.no ?_ | refine And.intro rfl ?_ | refine And.intro (by omega) ?_ | (refine And.intro ?_ ?_; focus (simp only [IntKind.wrap_i64, IntKind.wrap_u64, IntKind.wrap_u32]; omega)) | (refine And.intro ?_ ?_; focus (simp only [zl1, zl2, zl3, zl4, zl5, zl6, zl7, zl8, zl9] <;> omega)) | (refine Cnd.tt ?_ ?_; focus (first | (apply decide_eq_true; omega) | (simp only [zq1, zq2, zq3, zq4, zq5, zq6, zq7, zq8, zq9, zq10, zq11, zq12] <;> omega) | rfl)) | (refine Cnd.ff ?_ ?_; focus (first | (apply decide_eq_false; omega) | (simp only [zq1, zq2, zq3, zq4, zq5, zq6, zq7, zq8, zq9, zq10, zq11, zq12] <;> omega) | rfl))))
            conv => whnf
            refine Cnd.mk (fun hlt => ?_) fun hge => ?_
            · have hkn : k < szN d := by have := of_decide_eq_true hlt; omega
              have hak : adN d + k ≤ 16 := Nat.le_trans (Nat.add_le_add_left (Nat.le_of_lt hkn) _) hfit.1
              have ea := w_ea hak
              repeat ((conv => whnf); (first | refine Cnd.yes ?_ | refine Cnd.no ?_ | refine And.intro rfl ?_ | refine And.intro (by omega) ?_ | (refine And.intro ?_ ?_; focus (simp only [IntKind.wrap_i64, IntKind.wrap_u64, IntKind.wrap_u32]; omega)) | (refine And.intro ?_ ?_; focus (simp only [zl1, zl2, zl3, zl4, zl5, zl6, zl7, zl8, zl9] <;> omega)) | (refine Cnd.tt ?_ ?_; focus (first | (apply decide_eq_true; omega) | (simp only [zq1, zq2, zq3, zq4, zq5, zq6, zq7, zq8, zq9, zq10, zq11, zq12] <;> omega) | rfl)) | (refine Cnd.ff ?_ ?_; focus (first | (apply decide_eq_false; omega) | (simp only [zq1, zq2, zq3, zq4, zq5, zq6, zq7, zq8, zq9, zq10, zq11, zq12] <;> omega) | rfl))))
              conv => whnf
              rw [ea]
              repeat ((conv => whnf); (first | refine Cnd.yes ?_ | refine Cnd.no ?_ | refine And.intro rfl ?_ | refine And.intro (by omega) ?_ | (refine And.intro ?_ ?_; focus (simp only [IntKind.wrap_i64, IntKind.wrap_u64, IntKind.wrap_u32]; omega)) | (refine And.intro ?_ ?_; focus (simp only [zl1, zl2, zl3, zl4, zl5, zl6, zl7, zl8, zl9] <;> omega)) | (refine Cnd.tt ?_ ?_; focus (first | (apply decide_eq_true; omega) | (simp only [zq1, zq2, zq3, zq4, zq5, zq6, zq7, zq8, zq9, zq10, zq11, zq12] <;> omega) | rfl)) | (refine Cnd.ff ?_ ?_; focus (first | (apply decide_eq_false; omega) | (simp only [zq1, zq2, zq3, zq4, zq5, zq6, zq7, zq8, zq9, zq10, zq11, zq12] <;> omega) | rfl))))
              conv => whnf
              (refine ⟨(fun s : Nat => szN d - s) (k + 1), [0, 1, 2, 3, 4, 5], tmk 175 0 ((fun s : Nat => [(0, .slc 0 7 0 ds.length), (4, .ptr 1 0 0 0), (6, .ptr 3 0 0 0), (8, .slc 5 1 0 16), (9, .v (.int .i64 i)), (10, .v (.int .i64 (szN d))), (11, .v (.int .u32 (adN d))), (12, .v (.int .i64 s))]) (k + 1)), (fun s : Nat => [Ent.row false e dck (ds.map drow), .cells 56 [.v (.int .i64 64), .slc 2 7 0 (i + 1)], .row true 61 qck ((LQ E (i + 1)).map qrow ++ []), .cells 59 [.slc 4 1 0 16], .row true 5 [.int .u8] (bT (memF E (i + 1)) 16), .row true 4 [.bool] (tblOf (boolr (tchK (tchF E i) (adN d) s)) 16)]) (k + 1), ?_, ?_⟩; focus (first | (simp only []; omega) | omega))
              repeat ((conv => whnf); (first | refine Cnd.yes ?_ | refine Cnd.no ?_ | refine And.intro rfl ?_ | refine And.intro (by omega) ?_ | (refine And.intro ?_ ?_; focus (simp only [IntKind.wrap_i64, IntKind.wrap_u64, IntKind.wrap_u32]; omega)) | (refine And.intro ?_ ?_; focus (simp only [zl1, zl2, zl3, zl4, zl5, zl6, zl7, zl8, zl9] <;> omega))))
              conv => whnf
              refine ⟨by rw [boolr_set _ (by omega), tchK_next], ?_⟩
              repeat ((conv => whnf); (first | refine Cnd.yes ?_ | refine Cnd.no ?_ | refine And.intro rfl ?_ | refine And.intro (by omega) ?_ | (refine And.intro ?_ ?_; focus (simp only [IntKind.wrap_i64, IntKind.wrap_u64, IntKind.wrap_u32]; omega)) | (refine And.intro ?_ ?_; focus (simp only [zl1, zl2, zl3, zl4, zl5, zl6, zl7, zl8, zl9] <;> omega))))
              conv => whnf
              exact ⟨k + 1, hkn, rfl, rfl, (tmkK_eq _ _ _ _).mpr rfl, rfl⟩
            · obtain rfl : k = szN d := by have := of_decide_eq_false hge; omega
              repeat ((conv => whnf); (first | refine Cnd.yes ?_ | refine Cnd.no ?_ | refine And.intro rfl ?_ | refine And.intro (by omega) ?_ | (refine And.intro ?_ ?_; focus (simp only [IntKind.wrap_i64, IntKind.wrap_u64, IntKind.wrap_u32]; omega)) | (refine And.intro ?_ ?_; focus (simp only [zl1, zl2, zl3, zl4, zl5, zl6, zl7, zl8, zl9] <;> omega)) | (refine Cnd.tt ?_ ?_; focus (first | (apply decide_eq_true; omega) | (simp only [zq1, zq2, zq3, zq4, zq5, zq6, zq7, zq8, zq9, zq10, zq11, zq12] <;> omega) | rfl)) | (refine Cnd.ff ?_ ?_; focus (first | (apply decide_eq_false; omega) | (simp only [zq1, zq2, zq3, zq4, zq5, zq6, zq7, zq8, zq9, zq10, zq11, zq12] <;> omega) | rfl))))
              conv => whnf
              (refine ⟨(fun s : Nat => ds.length - s) (i + 1), [0, 1, 2, 3, 4, 5], tmk 175 0 ((fun s : Nat => [(0, .slc 0 7 0 ds.length), (4, .ptr 1 0 0 0), (6, .ptr 3 0 0 0), (8, .slc 5 1 0 16), (9, .v (.int .i64 s))]) (i + 1)), (fun s : Nat => fHp e ds E s) (i + 1), ?_, ?_⟩; focus (first | (simp only []; omega) | omega))
              repeat ((conv => whnf); (first | refine Cnd.yes ?_ | refine Cnd.no ?_ | refine And.intro rfl ?_ | refine And.intro (by omega) ?_ | (refine And.intro ?_ ?_; focus (simp only [IntKind.wrap_i64, IntKind.wrap_u64, IntKind.wrap_u32]; omega)) | (refine And.intro ?_ ?_; focus (simp only [zl1, zl2, zl3, zl4, zl5, zl6, zl7, zl8, zl9] <;> omega))))
              conv => whnf
              refine ⟨by rw [ht], ?_⟩
              repeat ((conv => whnf); (first | refine Cnd.yes ?_ | refine Cnd.no ?_ | refine And.intro rfl ?_ | refine And.intro (by omega) ?_ | (refine And.intro ?_ ?_; focus (simp only [IntKind.wrap_i64, IntKind.wrap_u64, IntKind.wrap_u32]; omega)) | (refine And.intro ?_ ?_; focus (simp only [zl1, zl2, zl3, zl4, zl5, zl6, zl7, zl8, zl9] <;> omega))))
              conv => whnf
              exact ⟨i + 1, hin, rfl, rfl, (tmkK_eq _ _ _ _).mpr rfl, rfl⟩
        | false =>
          have hq : (LQ E i).map qrow ++ [qrow (Q7.mk i false true false (adN d) (szN d) 0)] = (LQ E (i + 1)).map qrow ++ [] := by
            rw [List.append_nil, LQ_succ, List.map_append]
            simp [qOf, hEi, accD, hst]
          have hm : memF E i = memF E (i + 1) := by
            show _ = if (E i).st then putC (memF E i) (E i).ad (E i).sz (E i).v else memF E i
            rw [hEi]
            simp [accD, hst]
          have ht : tchF E i = tchF E (i + 1) := by
            funext b
            show _ = if (E i).st = true ∧ _ then true else tchF E i b
            rw [if_neg fun h => by rw [hEi] at h; have := h.1; simp [accD, hst] at this]
          have hfE : ∀ j, j < i → Fit7 (qOf E j) := fun j hj => by
            have hEj : E j = accD (ds.getD j default) := by rw [hE]
            unfold qOf
            rw [hEj]
            exact qfit (hd (ds.getD j default) (by simp [List.getD, show j < ds.length by omega])) j
          have hpos : ∀ j, j < i → 0 < (E j).sz := fun j hj => by
            have hEj : E j = accD (ds.getD j default) := by rw [hE]
            rw [hEj]
            have h1 := szN_in (ds.getD j default)
            show 0 < szN (ds.getD j default)
            omega
          have hfP : ∀ y ∈ LQ E i, Fit7 y := fun y hy => by
            obtain ⟨j, hj, rfl⟩ := LQ_mem hy
            exact hfE j hj
          have hpl : ∀ y ∈ LQ E i, y.st = true → y.pl = true := fun y hy _ => by
            obtain ⟨j, hj, rfl⟩ := LQ_mem hy
            rfl
          have hfx : Fit7 (Q7.mk i false true false (adN d) (szN d) 0) := by
            unfold Fit7
            simp only
            omega
          repeat ((conv => whnf); (first | refine Cnd.yes ?_ | refine Cnd.no ?_ | refine And.intro rfl ?_ | refine And.intro (by omega) ?_ | (refine And.intro ?_ ?_; focus (simp only [IntKind.wrap_i64, IntKind.wrap_u64, IntKind.wrap_u32]; omega)) | (refine And.intro ?_ ?_; focus (simp only [zl1, zl2, zl3, zl4, zl5, zl6, zl7, zl8, zl9] <;> omega)) | (refine Cnd.tt ?_ ?_; focus (first | (apply decide_eq_true; omega) | (simp only [zq1, zq2, zq3, zq4, zq5, zq6, zq7, zq8, zq9, zq10, zq11, zq12] <;> omega) | rfl)) | (refine Cnd.ff ?_ ?_; focus (first | (apply decide_eq_false; omega) | (simp only [zq1, zq2, zq3, zq4, zq5, zq6, zq7, zq8, zq9, zq10, zq11, zq12] <;> omega) | rfl))))
          conv => whnf
          refine ⟨InvS 175 (fun s : Nat × Bool => szN d - s.1) (fun s : Nat × Bool => s.1 ≤ szN d ∧ (s.2 = true ↔ ∃ j, j < s.1 ∧ tchF E i (adN d + j) = true)) (fun s : Nat × Bool => [(0, .slc 0 7 0 ds.length), (4, .ptr 1 0 0 0), (6, .ptr 3 0 0 0), (8, .slc 5 1 0 16), (9, .v (.int .i64 i)), (10, .v (.int .i64 (szN d))), (11, .v (.int .u32 (adN d))), (13, .v (.bool s.2)), (14, .v (.int .i64 s.1))]) (fun s : Nat × Bool => [Ent.row false e dck (ds.map drow), .cells 56 [.v (.int .i64 64), .slc 2 7 0 (i + 1)], .row true 61 qck ((LQ E i).map qrow ++ [qrow (Q7.mk i false true false (adN d) (szN d) 0)]), .cells 59 [.slc 4 1 0 16], .row true 5 [.int .u8] (bT (memF E i) 16), .row true 4 [.bool] (tblOf (boolr (tchF E i)) 16)]) M1, ⟨(fun s : Nat × Bool => szN d - s.1) (0, false), [0, 1, 7, 3, 4, 5], tmk 175 0 ((fun s : Nat × Bool => [(0, .slc 0 7 0 ds.length), (4, .ptr 1 0 0 0), (6, .ptr 3 0 0 0), (8, .slc 5 1 0 16), (9, .v (.int .i64 i)), (10, .v (.int .i64 (szN d))), (11, .v (.int .u32 (adN d))), (13, .v (.bool s.2)), (14, .v (.int .i64 s.1))]) (0, false)), (fun s : Nat × Bool => [Ent.row false e dck (ds.map drow), .cells 56 [.v (.int .i64 64), .slc 2 7 0 (i + 1)], .row true 61 qck ((LQ E i).map qrow ++ [qrow (Q7.mk i false true false (adN d) (szN d) 0)]), .cells 59 [.slc 4 1 0 16], .row true 5 [.int .u8] (bT (memF E i) 16), .row true 4 [.bool] (tblOf (boolr (tchF E i)) 16)]) (0, false), ?_⟩, ?_⟩
          · repeat ((conv => whnf); (first | refine Cnd.yes ?_ | refine Cnd.no ?_ | refine And.intro rfl ?_ | refine And.intro (by omega) ?_ | (refine And.intro ?_ ?_; focus (simp only [IntKind.wrap_i64, IntKind.wrap_u64, IntKind.wrap_u32]; omega)) | (refine And.intro ?_ ?_; focus (simp only [zl1, zl2, zl3, zl4, zl5, zl6, zl7, zl8, zl9] <;> omega))))
            conv => whnf
            exact ⟨(0, false), ⟨Nat.zero_le _, ⟨fun h => (by cases h), fun ⟨j, hj, _⟩ => (by omega)⟩⟩, rfl, rfl, (tmkK_eq _ _ _ _).mpr rfl, rfl⟩
          · rintro cnt tm hp M1 ⟨⟨k,any⟩, hC_, rfl, rfl, htm, hhp_⟩
            replace hC_ : k ≤ szN d ∧ (any = true ↔ ∃ j, j < k ∧ tchF E i (adN d + j) = true) := hC_
            obtain ⟨hk, hany⟩ := hC_
            replace htm : tmkK 175 0 [(0, .slc 0 7 0 ds.length), (4, .ptr 1 0 0 0), (6, .ptr 3 0 0 0), (8, .slc 5 1 0 16), (9, .v (.int .i64 i)), (10, .v (.int .i64 (szN d))), (11, .v (.int .u32 (adN d))), (13, .v (.bool any)), (14, .v (.int .i64 k))] (fun l => tm = l) := htm
            conv at htm => whnf
            subst htm
            replace hhp_ : hp = [Ent.row false e dck (ds.map drow), .cells 56 [.v (.int .i64 64), .slc 2 7 0 (i + 1)], .row true 61 qck ((LQ E i).map qrow ++ [qrow (Q7.mk i false true false (adN d) (szN d) 0)]), .cells 59 [.slc 4 1 0 16], .row true 5 [.int .u8] (bT (memF E i) 16), .row true 4 [.bool] (tblOf (boolr (tchF E i)) 16)] := hhp_
            subst hhp_
            repeat ((conv => whnf); (first | refine Cnd.yes ?_ | refine Cnd.no ?_ | refine And.intro rfl ?_ | refine And.intro (by omega) ?_ | (refine And.intro ?_ ?_; focus (simp only [IntKind.wrap_i64, IntKind.wrap_u64, IntKind.wrap_u32]; omega)) | (refine And.intro ?_ ?_; focus (simp only [zl1, zl2, zl3, zl4, zl5, zl6, zl7, zl8, zl9] <;> omega)) | (refine Cnd.tt ?_ ?_; focus (first | (apply decide_eq_true; omega) | (simp only [zq1, zq2, zq3, zq4, zq5, zq6, zq7, zq8, zq9, zq10, zq11, zq12] <;> omega) | rfl)) | (refine Cnd.ff ?_ ?_; focus (first | (apply decide_eq_false; omega) | (simp only [zq1, zq2, zq3, zq4, zq5, zq6, zq7, zq8, zq9, zq10, zq11, zq12] <;> omega) | rfl))))
            conv => whnf
            refine Cnd.mk (fun hlt => ?_) fun hge => ?_
            · have hkn : k < szN d := by have := of_decide_eq_true hlt; omega
              have hak : adN d + k ≤ 16 := Nat.le_trans (Nat.add_le_add_left (Nat.le_of_lt hkn) _) hfit.1
              have ea := w_ea hak
              cases any with
              | true =>
                repeat ((conv => whnf); (first | refine Cnd.yes ?_ | refine Cnd.no ?_ | refine And.intro rfl ?_ | refine And.intro (by omega) ?_ | (refine And.intro ?_ ?_; focus (simp only [IntKind.wrap_i64, IntKind.wrap_u64, IntKind.wrap_u32]; omega)) | (refine And.intro ?_ ?_; focus (simp only [zl1, zl2, zl3, zl4, zl5, zl6, zl7, zl8, zl9] <;> omega)) | (refine Cnd.tt ?_ ?_; focus (first | (apply decide_eq_true; omega) | (simp only [zq1, zq2, zq3, zq4, zq5, zq6, zq7, zq8, zq9, zq10, zq11, zq12] <;> omega) | rfl)) | (refine Cnd.ff ?_ ?_; focus (first | (apply decide_eq_false; omega) | (simp only [zq1, zq2, zq3, zq4, zq5, zq6, zq7, zq8, zq9, zq10, zq11, zq12] <;> omega) | rfl))))
                conv => whnf
                (refine ⟨(fun s : Nat × Bool => szN d - s.1) ((k + 1, true)), [0, 1, 2, 3, 4, 5], tmk 175 0 ((fun s : Nat × Bool => [(0, .slc 0 7 0 ds.length), (4, .ptr 1 0 0 0), (6, .ptr 3 0 0 0), (8, .slc 5 1 0 16), (9, .v (.int .i64 i)), (10, .v (.int .i64 (szN d))), (11, .v (.int .u32 (adN d))), (13, .v (.bool s.2)), (14, .v (.int .i64 s.1))]) ((k + 1, true))), (fun s : Nat × Bool => [Ent.row false e dck (ds.map drow), .cells 56 [.v (.int .i64 64), .slc 2 7 0 (i + 1)], .row true 61 qck ((LQ E i).map qrow ++ [qrow (Q7.mk i false true false (adN d) (szN d) 0)]), .cells 59 [.slc 4 1 0 16], .row true 5 [.int .u8] (bT (memF E i) 16), .row true 4 [.bool] (tblOf (boolr (tchF E i)) 16)]) ((k + 1, true)), ?_, ?_⟩; focus (first | (simp only []; omega) | omega))
                repeat ((conv => whnf); (first | refine Cnd.yes ?_ | refine Cnd.no ?_ | refine And.intro rfl ?_ | refine And.intro (by omega) ?_ | (refine And.intro ?_ ?_; focus (simp only [IntKind.wrap_i64, IntKind.wrap_u64, IntKind.wrap_u32]; omega)) | (refine And.intro ?_ ?_; focus (simp only [zl1, zl2, zl3, zl4, zl5, zl6, zl7, zl8, zl9] <;> omega))))
                conv => whnf
                exact ⟨(k + 1, true), ⟨hkn, any_true (hany.1 rfl)⟩, rfl, rfl, (tmkK_eq _ _ _ _).mpr rfl, rfl⟩
              | false =>
                repeat ((conv => whnf); (first | refine Cnd.yes ?_ | refine Cnd.no ?_ | refine And.intro rfl ?_ | refine And.intro (by omega) ?_ | (refine And.intro ?_ ?_; focus (simp only [IntKind.wrap_i64, IntKind.wrap_u64, IntKind.wrap_u32]; omega)) | (refine And.intro ?_ ?_; focus (simp only [zl1, zl2, zl3, zl4, zl5, zl6, zl7, zl8, zl9] <;> omega)) | (refine Cnd.tt ?_ ?_; focus (first | (apply decide_eq_true; omega) | (simp only [zq1, zq2, zq3, zq4, zq5, zq6, zq7, zq8, zq9, zq10, zq11, zq12] <;> omega) | rfl)) | (refine Cnd.ff ?_ ?_; focus (first | (apply decide_eq_false; omega) | (simp only [zq1, zq2, zq3, zq4, zq5, zq6, zq7, zq8, zq9, zq10, zq11, zq12] <;> omega) | rfl))))
                conv => whnf
                rw [ea]
                repeat ((conv => whnf); (first | refine Cnd.yes ?_ | refine Cnd.no ?_ | refine And.intro rfl ?_ | refine And.intro (by omega) ?_ | (refine And.intro ?_ ?_; focus (simp only [IntKind.wrap_i64, IntKind.wrap_u64, IntKind.wrap_u32]; omega)) | (refine And.intro ?_ ?_; focus (simp only [zl1, zl2, zl3, zl4, zl5, zl6, zl7, zl8, zl9] <;> omega)) | (refine Cnd.tt ?_ ?_; focus (first | (apply decide_eq_true; omega) | (simp only [zq1, zq2, zq3, zq4, zq5, zq6, zq7, zq8, zq9, zq10, zq11, zq12] <;> omega) | rfl)) | (refine Cnd.ff ?_ ?_; focus (first | (apply decide_eq_false; omega) | (simp only [zq1, zq2, zq3, zq4, zq5, zq6, zq7, zq8, zq9, zq10, zq11, zq12] <;> omega) | rfl))))
                conv => whnf
                rw [boolr_get _ (by omega)]
                have hn : ∀ j, j < k → tchF E i (adN d + j) ≠ true := fun j hj h => by have := hany.2 ⟨j, hj, h⟩; cases this
                (refine ⟨(fun s : Nat × Bool => szN d - s.1) ((k + 1, tchF E i (adN d + k))), [0, 1, 2, 3, 4, 5], tmk 175 0 ((fun s : Nat × Bool => [(0, .slc 0 7 0 ds.length), (4, .ptr 1 0 0 0), (6, .ptr 3 0 0 0), (8, .slc 5 1 0 16), (9, .v (.int .i64 i)), (10, .v (.int .i64 (szN d))), (11, .v (.int .u32 (adN d))), (13, .v (.bool s.2)), (14, .v (.int .i64 s.1))]) ((k + 1, tchF E i (adN d + k)))), (fun s : Nat × Bool => [Ent.row false e dck (ds.map drow), .cells 56 [.v (.int .i64 64), .slc 2 7 0 (i + 1)], .row true 61 qck ((LQ E i).map qrow ++ [qrow (Q7.mk i false true false (adN d) (szN d) 0)]), .cells 59 [.slc 4 1 0 16], .row true 5 [.int .u8] (bT (memF E i) 16), .row true 4 [.bool] (tblOf (boolr (tchF E i)) 16)]) ((k + 1, tchF E i (adN d + k))), ?_, ?_⟩; focus (first | (simp only []; omega) | omega))
                repeat ((conv => whnf); (first | refine Cnd.yes ?_ | refine Cnd.no ?_ | refine And.intro rfl ?_ | refine And.intro (by omega) ?_ | (refine And.intro ?_ ?_; focus (simp only [IntKind.wrap_i64, IntKind.wrap_u64, IntKind.wrap_u32]; omega)) | (refine And.intro ?_ ?_; focus (simp only [zl1, zl2, zl3, zl4, zl5, zl6, zl7, zl8, zl9] <;> omega))))
                conv => whnf
                exact ⟨(k + 1, tchF E i (adN d + k)), ⟨hkn, any_step hn⟩, rfl, rfl, (tmkK_eq _ _ _ _).mpr rfl, rfl⟩
            · obtain rfl : k = szN d := by have := of_decide_eq_false hge; omega
              repeat ((conv => whnf); (first | refine Cnd.yes ?_ | refine Cnd.no ?_ | refine And.intro rfl ?_ | refine And.intro (by omega) ?_ | (refine And.intro ?_ ?_; focus (simp only [IntKind.wrap_i64, IntKind.wrap_u64, IntKind.wrap_u32]; omega)) | (refine And.intro ?_ ?_; focus (simp only [zl1, zl2, zl3, zl4, zl5, zl6, zl7, zl8, zl9] <;> omega)) | (refine Cnd.tt ?_ ?_; focus (first | (apply decide_eq_true; omega) | (simp only [zq1, zq2, zq3, zq4, zq5, zq6, zq7, zq8, zq9, zq10, zq11, zq12] <;> omega) | rfl)) | (refine Cnd.ff ?_ ?_; focus (first | (apply decide_eq_false; omega) | (simp only [zq1, zq2, zq3, zq4, zq5, zq6, zq7, zq8, zq9, zq10, zq11, zq12] <;> omega) | rfl))))
              conv => whnf
              refine ⟨64, i, LQ E i, Q7.mk i false true false (adN d) (szN d) 0, [], i + 1, rfl, rfl, by rw [LQ_len]; omega, by rw [LQ_len]; simp, by omega, rfl, hne, rfl, rfl, hfx, hfP, hpl, fun kd v id hA => ?_⟩
              repeat ((conv => whnf); (first | refine Cnd.yes ?_ | refine Cnd.no ?_ | refine And.intro rfl ?_ | refine And.intro (by omega) ?_ | (refine And.intro ?_ ?_; focus (simp only [IntKind.wrap_i64, IntKind.wrap_u64, IntKind.wrap_u32]; omega)) | (refine And.intro ?_ ?_; focus (simp only [zl1, zl2, zl3, zl4, zl5, zl6, zl7, zl8, zl9] <;> omega)) | (refine Cnd.tt ?_ ?_; focus (first | (apply decide_eq_true; omega) | (simp only [zq1, zq2, zq3, zq4, zq5, zq6, zq7, zq8, zq9, zq10, zq11, zq12] <;> omega) | rfl)) | (refine Cnd.ff ?_ ?_; focus (first | (apply decide_eq_false; omega) | (simp only [zq1, zq2, zq3, zq4, zq5, zq6, zq7, zq8, zq9, zq10, zq11, zq12] <;> omega) | rfl))))
              conv => whnf
              refine ⟨true, 16, adN d, memF E i, szN d, rfl, rfl, by omega, by omega, memF_lt E i, ?_⟩
              rw [hB, if_pos rfl, Int.toNat_natCast]
              have hans := answers (by omega) hpos hA hany
              rcases hans with ⟨rfl, rfl⟩ | ⟨rfl, rfl⟩ | ⟨rfl, rfl, rfl⟩
              all_goals
                repeat ((conv => whnf); (first | refine Cnd.yes ?_ | refine Cnd.no ?_ | refine And.intro rfl ?_ | refine And.intro (by omega) ?_ | (refine And.intro ?_ ?_; focus (simp only [IntKind.wrap_i64, IntKind.wrap_u64, IntKind.wrap_u32]; omega)) | (refine And.intro ?_ ?_; focus (simp only [zl1, zl2, zl3, zl4, zl5, zl6, zl7, zl8, zl9] <;> omega)) | (refine Cnd.tt ?_ ?_; focus (first | (apply decide_eq_true; omega) | (simp only [zq1, zq2, zq3, zq4, zq5, zq6, zq7, zq8, zq9, zq10, zq11, zq12] <;> omega) | rfl)) | (refine Cnd.ff ?_ ?_; focus (first | (apply decide_eq_false; omega) | (simp only [zq1, zq2, zq3, zq4, zq5, zq6, zq7, zq8, zq9, zq10, zq11, zq12] <;> omega) | rfl))))
                conv => whnf
                (refine ⟨(fun s : Nat => ds.length - s) (i + 1), [0, 1, 2, 3, 4, 5], tmk 175 0 ((fun s : Nat => [(0, .slc 0 7 0 ds.length), (4, .ptr 1 0 0 0), (6, .ptr 3 0 0 0), (8, .slc 5 1 0 16), (9, .v (.int .i64 s))]) (i + 1)), (fun s : Nat => fHp e ds E s) (i + 1), ?_, ?_⟩; focus (first | (simp only []; omega) | omega))
                repeat ((conv => whnf); (first | refine Cnd.yes ?_ | refine Cnd.no ?_ | refine And.intro rfl ?_ | refine And.intro (by omega) ?_ | (refine And.intro ?_ ?_; focus (simp only [IntKind.wrap_i64, IntKind.wrap_u64, IntKind.wrap_u32]; omega)) | (refine And.intro ?_ ?_; focus (simp only [zl1, zl2, zl3, zl4, zl5, zl6, zl7, zl8, zl9] <;> omega))))
                conv => whnf
                refine ⟨by rw [hm], ?_⟩
                repeat ((conv => whnf); (first | refine Cnd.yes ?_ | refine Cnd.no ?_ | refine And.intro rfl ?_ | refine And.intro (by omega) ?_ | (refine And.intro ?_ ?_; focus (simp only [IntKind.wrap_i64, IntKind.wrap_u64, IntKind.wrap_u32]; omega)) | (refine And.intro ?_ ?_; focus (simp only [zl1, zl2, zl3, zl4, zl5, zl6, zl7, zl8, zl9] <;> omega))))
                conv => whnf
                refine ⟨by rw [ht], ?_⟩
                repeat ((conv => whnf); (first | refine Cnd.yes ?_ | refine Cnd.no ?_ | refine And.intro rfl ?_ | refine And.intro (by omega) ?_ | (refine And.intro ?_ ?_; focus (simp only [IntKind.wrap_i64, IntKind.wrap_u64, IntKind.wrap_u32]; omega)) | (refine And.intro ?_ ?_; focus (simp only [zl1, zl2, zl3, zl4, zl5, zl6, zl7, zl8, zl9] <;> omega))))
                conv => whnf
                exact ⟨i + 1, hin, rfl, rfl, (tmkK_eq _ _ _ _).mpr rfl, rfl⟩
      · repeat ((conv => whnf); (first | refine Cnd.yes ?_ | refine Cnd.no ?_ | refine And.intro rfl ?_ | refine And.intro (by omega) ?_ | (refine And.intro ?_ ?_; focus (simp only [IntKind.wrap_i64, IntKind.wrap_u64, IntKind.wrap_u32]; omega)) | (refine And.intro ?_ ?_; focus (simp only [zl1, zl2, zl3, zl4, zl5, zl6, zl7, zl8, zl9] <;> omega)) | (refine Cnd.tt ?_ ?_; focus (first | (apply decide_eq_true; omega) | (simp only [zq1, zq2, zq3, zq4, zq5, zq6, zq7, zq8, zq9, zq10, zq11, zq12] <;> omega) | rfl)) | (refine Cnd.ff ?_ ?_; focus (first | (apply decide_eq_false; omega) | (simp only [zq1, zq2, zq3, zq4, zq5, zq6, zq7, zq8, zq9, zq10, zq11, zq12] <;> omega) | rfl))))
        conv => whnf
        exact hK _
end Go.Proofs.YtjbknaniihkcnaaDoor
