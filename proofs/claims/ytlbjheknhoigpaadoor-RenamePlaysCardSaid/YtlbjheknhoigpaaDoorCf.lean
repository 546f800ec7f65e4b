/-
  RenameBack: SameInts walked; the plain law of what is taken and undone.
-/
import Derived.Test.YtlbjheknhoigpaaDoorCd
namespace Go.Proofs.YtlbjheknhoigpaaDoor
open Go Go.Vc
set_option maxRecDepth 100000
set_option linter.unusedSimpArgs false
set_option linter.unusedVariables false
/-- A word in a row behind others. -/
theorem toI_pre {P : List (List Value)} {l : List Int} {i : Nat} (hi : i < l.length) : toI (cellAt (P ++ l.map irow) (P.length + (i : Int).toNat) 0) = l.getD i 0 := by
  rw [Int.toNat_natCast]
  have : (P ++ l.map irow)[P.length + i]? = some (irow l[i]) := by
    rw [List.getElem?_append_right (by omega)]
    simp [hi]
  simp [cellAt, List.getD, hi, this, irow, toI]
theorem sameO_run (M : HL) (K : SV → List Ent → HL → Prop) (P Q : List (List Value)) (a b : List Int) (o o2 : Bool) (e e2 : TypeId) (ha : a.length ≤ 1000000) (hb : b.length ≤ 1000000)
    (hK : K (.v (.bool (decide (a = b)))) [.row o e [.int .i64] (P ++ a.map irow), .row o2 e2 [.int .i64] (Q ++ b.map irow)] M) :
    runF G0 pf17 [.slc 0 1 P.length a.length, .slc 1 1 Q.length b.length] [.row o e [.int .i64] (P ++ a.map irow), .row o2 e2 [.int .i64] (Q ++ b.map irow)] M K := by
  repeat ((conv => whnf); (first | refine Cnd.yes ?_ | refine Cnd.no ?_ | refine And.intro rfl ?_ | refine And.intro (by omega) ?_ | (refine And.intro ?_ ?_; focus (simp only [IntKind.wrap_i64, IntKind.wrap_u64, IntKind.wrap_u32]; omega)) | (refine And.intro ?_ ?_; focus (first | (simp only [tblOf_len, List.length_map, List.length_append, List.length_cons, List.length_nil, List.length_take, List.length_drop, List.length_replicate]; omega) | (simp only [tblOf_len, List.length_map, List.length_append, List.length_cons, List.length_nil, List.length_take, List.length_drop, List.length_replicate]; done)))))
  conv => whnf
  by_cases hl : a.length = b.length
  · refine Cnd.ff (by rw [hl]; simp) ?_
    repeat ((conv => whnf); (first | refine Cnd.yes ?_ | refine Cnd.no ?_ | refine And.intro rfl ?_ | refine And.intro (by omega) ?_ | (refine And.intro ?_ ?_; focus (simp only [IntKind.wrap_i64, IntKind.wrap_u64, IntKind.wrap_u32]; omega)) | (refine And.intro ?_ ?_; focus (first | (simp only [tblOf_len, List.length_map, List.length_append, List.length_cons, List.length_nil, List.length_take, List.length_drop, List.length_replicate]; omega) | (simp only [tblOf_len, List.length_map, List.length_append, List.length_cons, List.length_nil, List.length_take, List.length_drop, List.length_replicate]; done)))))
    conv => whnf
    refine ⟨InvS 29 (fun s : Nat => a.length - s) (fun s : Nat => s ≤ a.length ∧ ∀ j, j < s → a.getD j 0 = b.getD j 0) (fun s : Nat => [(0, .slc 0 1 P.length a.length), (1, .slc 1 1 Q.length b.length), (5, .v (.int .i64 s))]) (fun s : Nat => [Ent.row o e [.int .i64] (P ++ a.map irow), .row o2 e2 [.int .i64] (Q ++ b.map irow)]) M, ⟨(fun s : Nat => a.length - s) 0, [0, 1], tmk 29 0 ((fun s : Nat => [(0, .slc 0 1 P.length a.length), (1, .slc 1 1 Q.length b.length), (5, .v (.int .i64 s))]) 0), (fun s : Nat => [Ent.row o e [.int .i64] (P ++ a.map irow), .row o2 e2 [.int .i64] (Q ++ b.map irow)]) 0, ?_⟩, ?_⟩
    · repeat ((conv => whnf); (first | refine Cnd.yes ?_ | refine Cnd.no ?_ | refine And.intro rfl ?_ | refine And.intro (by omega) ?_ | (refine And.intro ?_ ?_; focus (simp only [IntKind.wrap_i64, IntKind.wrap_u64, IntKind.wrap_u32]; omega)) | (refine And.intro ?_ ?_; focus (first | (simp only [tblOf_len, List.length_map, List.length_append, List.length_cons, List.length_nil, List.length_take, List.length_drop, List.length_replicate]; omega) | (simp only [tblOf_len, List.length_map, List.length_append, List.length_cons, List.length_nil, List.length_take, List.length_drop, List.length_replicate]; done)))))
      conv => whnf
      exact ⟨0, ⟨by omega, fun j hj => by omega⟩, rfl, rfl, (tmkK_eq _ _ _ _).mpr rfl, rfl⟩
    · rintro cnt tm hp M1 ⟨i, hC_, rfl, rfl, htm, hhp_⟩
      replace hC_ : i ≤ a.length ∧ ∀ j, j < i → a.getD j 0 = b.getD j 0 := hC_
      obtain ⟨hi, hall⟩ := hC_
      replace htm : tmkK 29 0 [(0, .slc 0 1 P.length a.length), (1, .slc 1 1 Q.length b.length), (5, .v (.int .i64 i))] (fun l => tm = l) := htm
      conv at htm => whnf
      subst htm
      replace hhp_ : hp = [Ent.row o e [.int .i64] (P ++ a.map irow), .row o2 e2 [.int .i64] (Q ++ b.map irow)] := hhp_
      subst hhp_
      repeat ((conv => whnf); (first | refine Cnd.yes ?_ | refine Cnd.no ?_ | refine And.intro rfl ?_ | refine And.intro (by omega) ?_ | (refine And.intro ?_ ?_; focus (simp only [IntKind.wrap_i64, IntKind.wrap_u64, IntKind.wrap_u32]; omega)) | (refine And.intro ?_ ?_; focus (first | (simp only [tblOf_len, List.length_map, List.length_append, List.length_cons, List.length_nil, List.length_take, List.length_drop, List.length_replicate]; omega) | (simp only [tblOf_len, List.length_map, List.length_append, List.length_cons, List.length_nil, List.length_take, List.length_drop, List.length_replicate]; done)))))
      conv => whnf
      refine Cnd.mk (fun hlt => ?_) fun hge => ?_
      · have hin : i < a.length := by have := of_decide_eq_true hlt; omega
        have e0 := toI_pre (P := P) hin
        have e1 := toI_pre (P := Q) (show i < b.length by omega)
        repeat ((repeat ((conv => whnf); (first | refine Cnd.yes ?_ | refine Cnd.no ?_ | refine And.intro rfl ?_ | refine And.intro (by omega) ?_ | (refine And.intro ?_ ?_; focus (simp only [IntKind.wrap_i64, IntKind.wrap_u64, IntKind.wrap_u32]; omega)) | (refine And.intro ?_ ?_; focus (first | (simp only [tblOf_len, List.length_map, List.length_append, List.length_cons, List.length_nil, List.length_take, List.length_drop, List.length_replicate]; omega) | (simp only [tblOf_len, List.length_map, List.length_append, List.length_cons, List.length_nil, List.length_take, List.length_drop, List.length_replicate]; done)))))); (conv => whnf); (first | (refine Cnd.tt ?_ ?_; focus (first | (apply decide_eq_true; omega) | (simp only [beq_iff_eq, bne_iff_ne, beq_eq_false_iff_ne, bne_eq_false_iff_eq, ne_eq, Bool.not_eq_true', Bool.not_eq_false', Bool.not_eq_eq_eq_not, Bool.not_true, Bool.not_false, decide_eq_true_eq, decide_eq_false_iff_not]; omega) | rfl)) | (refine Cnd.ff ?_ ?_; focus (first | (apply decide_eq_false; omega) | (simp only [beq_iff_eq, bne_iff_ne, beq_eq_false_iff_ne, bne_eq_false_iff_eq, ne_eq, Bool.not_eq_true', Bool.not_eq_false', Bool.not_eq_eq_eq_not, Bool.not_true, Bool.not_false, decide_eq_true_eq, decide_eq_false_iff_not]; omega) | rfl))))
        repeat ((conv => whnf); (first | refine Cnd.yes ?_ | refine Cnd.no ?_ | refine And.intro rfl ?_ | refine And.intro (by omega) ?_ | (refine And.intro ?_ ?_; focus (simp only [IntKind.wrap_i64, IntKind.wrap_u64, IntKind.wrap_u32]; omega)) | (refine And.intro ?_ ?_; focus (first | (simp only [tblOf_len, List.length_map, List.length_append, List.length_cons, List.length_nil, List.length_take, List.length_drop, List.length_replicate]; omega) | (simp only [tblOf_len, List.length_map, List.length_append, List.length_cons, List.length_nil, List.length_take, List.length_drop, List.length_replicate]; done)))))
        conv => whnf
        rw [e0, e1]
        by_cases hv : a.getD i 0 = b.getD i 0
        · rw [hv, show (b.getD i 0 == b.getD i 0) = true from by simp]
          repeat ((repeat ((conv => whnf); (first | refine Cnd.yes ?_ | refine Cnd.no ?_ | refine And.intro rfl ?_ | refine And.intro (by omega) ?_ | (refine And.intro ?_ ?_; focus (simp only [IntKind.wrap_i64, IntKind.wrap_u64, IntKind.wrap_u32]; omega)) | (refine And.intro ?_ ?_; focus (first | (simp only [tblOf_len, List.length_map, List.length_append, List.length_cons, List.length_nil, List.length_take, List.length_drop, List.length_replicate]; omega) | (simp only [tblOf_len, List.length_map, List.length_append, List.length_cons, List.length_nil, List.length_take, List.length_drop, List.length_replicate]; done)))))); (conv => whnf); (first | (refine Cnd.tt ?_ ?_; focus (first | (apply decide_eq_true; omega) | (simp only [beq_iff_eq, bne_iff_ne, beq_eq_false_iff_ne, bne_eq_false_iff_eq, ne_eq, Bool.not_eq_true', Bool.not_eq_false', Bool.not_eq_eq_eq_not, Bool.not_true, Bool.not_false, decide_eq_true_eq, decide_eq_false_iff_not]; omega) | rfl)) | (refine Cnd.ff ?_ ?_; focus (first | (apply decide_eq_false; omega) | (simp only [beq_iff_eq, bne_iff_ne, beq_eq_false_iff_ne, bne_eq_false_iff_eq, ne_eq, Bool.not_eq_true', Bool.not_eq_false', Bool.not_eq_eq_eq_not, Bool.not_true, Bool.not_false, decide_eq_true_eq, decide_eq_false_iff_not]; omega) | rfl))))
          repeat ((conv => whnf); (first | refine Cnd.yes ?_ | refine Cnd.no ?_ | refine And.intro rfl ?_ | refine And.intro (by omega) ?_ | (refine And.intro ?_ ?_; focus (simp only [IntKind.wrap_i64, IntKind.wrap_u64, IntKind.wrap_u32]; omega)) | (refine And.intro ?_ ?_; focus (first | (simp only [tblOf_len, List.length_map, List.length_append, List.length_cons, List.length_nil, List.length_take, List.length_drop, List.length_replicate]; omega) | (simp only [tblOf_len, List.length_map, List.length_append, List.length_cons, List.length_nil, List.length_take, List.length_drop, List.length_replicate]; done)))))
          conv => whnf
          (refine ⟨(fun s : Nat => a.length - s) (i + 1), [0, 1], tmk 29 0 ((fun s : Nat => [(0, .slc 0 1 P.length a.length), (1, .slc 1 1 Q.length b.length), (5, .v (.int .i64 s))]) (i + 1)), (fun s : Nat => [Ent.row o e [.int .i64] (P ++ a.map irow), .row o2 e2 [.int .i64] (Q ++ b.map irow)]) (i + 1), ?_, ?_⟩; focus (first | (simp only []; omega) | omega))
          repeat ((conv => whnf); (first | refine Cnd.yes ?_ | refine Cnd.no ?_ | refine And.intro rfl ?_ | refine And.intro (by omega) ?_ | (refine And.intro ?_ ?_; focus (simp only [IntKind.wrap_i64, IntKind.wrap_u64, IntKind.wrap_u32]; omega)) | (refine And.intro ?_ ?_; focus (first | (simp only [tblOf_len, List.length_map, List.length_append, List.length_cons, List.length_nil, List.length_take, List.length_drop, List.length_replicate]; omega) | (simp only [tblOf_len, List.length_map, List.length_append, List.length_cons, List.length_nil, List.length_take, List.length_drop, List.length_replicate]; done)))))
          conv => whnf
          exact ⟨i + 1, ⟨by omega, fun j hj => by rcases Nat.lt_succ_iff_lt_or_eq.1 hj with h | h; exact hall j h; rw [h]; exact hv⟩, rfl, rfl, (tmkK_eq _ _ _ _).mpr rfl, rfl⟩
        · rw [show (a.getD i 0 == b.getD i 0) = false from by simpa using hv]
          repeat ((repeat ((conv => whnf); (first | refine Cnd.yes ?_ | refine Cnd.no ?_ | refine And.intro rfl ?_ | refine And.intro (by omega) ?_ | (refine And.intro ?_ ?_; focus (simp only [IntKind.wrap_i64, IntKind.wrap_u64, IntKind.wrap_u32]; omega)) | (refine And.intro ?_ ?_; focus (first | (simp only [tblOf_len, List.length_map, List.length_append, List.length_cons, List.length_nil, List.length_take, List.length_drop, List.length_replicate]; omega) | (simp only [tblOf_len, List.length_map, List.length_append, List.length_cons, List.length_nil, List.length_take, List.length_drop, List.length_replicate]; done)))))); (conv => whnf); (first | (refine Cnd.tt ?_ ?_; focus (first | (apply decide_eq_true; omega) | (simp only [beq_iff_eq, bne_iff_ne, beq_eq_false_iff_ne, bne_eq_false_iff_eq, ne_eq, Bool.not_eq_true', Bool.not_eq_false', Bool.not_eq_eq_eq_not, Bool.not_true, Bool.not_false, decide_eq_true_eq, decide_eq_false_iff_not]; omega) | rfl)) | (refine Cnd.ff ?_ ?_; focus (first | (apply decide_eq_false; omega) | (simp only [beq_iff_eq, bne_iff_ne, beq_eq_false_iff_ne, bne_eq_false_iff_eq, ne_eq, Bool.not_eq_true', Bool.not_eq_false', Bool.not_eq_eq_eq_not, Bool.not_true, Bool.not_false, decide_eq_true_eq, decide_eq_false_iff_not]; omega) | rfl))))
          repeat ((conv => whnf); (first | refine Cnd.yes ?_ | refine Cnd.no ?_ | refine And.intro rfl ?_ | refine And.intro (by omega) ?_ | (refine And.intro ?_ ?_; focus (simp only [IntKind.wrap_i64, IntKind.wrap_u64, IntKind.wrap_u32]; omega)) | (refine And.intro ?_ ?_; focus (first | (simp only [tblOf_len, List.length_map, List.length_append, List.length_cons, List.length_nil, List.length_take, List.length_drop, List.length_replicate]; omega) | (simp only [tblOf_len, List.length_map, List.length_append, List.length_cons, List.length_nil, List.length_take, List.length_drop, List.length_replicate]; done)))))
          conv => whnf
          rw [decide_eq_false (fun h => hv (by rw [h]))] at hK
          exact hK
      · have hin : i = a.length := by have := of_decide_eq_false hge; omega
        repeat ((repeat ((conv => whnf); (first | refine Cnd.yes ?_ | refine Cnd.no ?_ | refine And.intro rfl ?_ | refine And.intro (by omega) ?_ | (refine And.intro ?_ ?_; focus (simp only [IntKind.wrap_i64, IntKind.wrap_u64, IntKind.wrap_u32]; omega)) | (refine And.intro ?_ ?_; focus (first | (simp only [tblOf_len, List.length_map, List.length_append, List.length_cons, List.length_nil, List.length_take, List.length_drop, List.length_replicate]; omega) | (simp only [tblOf_len, List.length_map, List.length_append, List.length_cons, List.length_nil, List.length_take, List.length_drop, List.length_replicate]; done)))))); (conv => whnf); (first | (refine Cnd.tt ?_ ?_; focus (first | (apply decide_eq_true; omega) | (simp only [beq_iff_eq, bne_iff_ne, beq_eq_false_iff_ne, bne_eq_false_iff_eq, ne_eq, Bool.not_eq_true', Bool.not_eq_false', Bool.not_eq_eq_eq_not, Bool.not_true, Bool.not_false, decide_eq_true_eq, decide_eq_false_iff_not]; omega) | rfl)) | (refine Cnd.ff ?_ ?_; focus (first | (apply decide_eq_false; omega) | (simp only [beq_iff_eq, bne_iff_ne, beq_eq_false_iff_ne, bne_eq_false_iff_eq, ne_eq, Bool.not_eq_true', Bool.not_eq_false', Bool.not_eq_eq_eq_not, Bool.not_true, Bool.not_false, decide_eq_true_eq, decide_eq_false_iff_not]; omega) | rfl))))
        repeat ((conv => whnf); (first | refine Cnd.yes ?_ | refine Cnd.no ?_ | refine And.intro rfl ?_ | refine And.intro (by omega) ?_ | (refine And.intro ?_ ?_; focus (simp only [IntKind.wrap_i64, IntKind.wrap_u64, IntKind.wrap_u32]; omega)) | (refine And.intro ?_ ?_; focus (first | (simp only [tblOf_len, List.length_map, List.length_append, List.length_cons, List.length_nil, List.length_take, List.length_drop, List.length_replicate]; omega) | (simp only [tblOf_len, List.length_map, List.length_append, List.length_cons, List.length_nil, List.length_take, List.length_drop, List.length_replicate]; done)))))
        conv => whnf
        rw [decide_eq_true (show a = b from List.ext_getElem hl fun j h1 h2 => by
          have := hall j (by omega)
          simpa [List.getD, h1, h2] using this)] at hK
        exact hK
  · refine Cnd.tt (by simpa using fun h => hl (by omega)) ?_
    repeat ((conv => whnf); (first | refine Cnd.yes ?_ | refine Cnd.no ?_ | refine And.intro rfl ?_ | refine And.intro (by omega) ?_ | (refine And.intro ?_ ?_; focus (simp only [IntKind.wrap_i64, IntKind.wrap_u64, IntKind.wrap_u32]; omega)) | (refine And.intro ?_ ?_; focus (first | (simp only [tblOf_len, List.length_map, List.length_append, List.length_cons, List.length_nil, List.length_take, List.length_drop, List.length_replicate]; omega) | (simp only [tblOf_len, List.length_map, List.length_append, List.length_cons, List.length_nil, List.length_take, List.length_drop, List.length_replicate]; done)))))
    conv => whnf
    rw [decide_eq_false (fun h => hl (by rw [h]))] at hK
    exact hK
def sameOS : Vc.Spec := fun args hp _ K => ∃ (P Q : List (List Value)) (a b : List Int) (o o2 : Bool) (e e2 : TypeId), args = [.slc 0 1 P.length a.length, .slc 1 1 Q.length b.length] ∧ hp = [.row o e [.int .i64] (P ++ a.map irow), .row o2 e2 [.int .i64] (Q ++ b.map irow)] ∧ a.length ≤ 1000000 ∧ b.length ≤ 1000000 ∧ K (.v (.bool (decide (a = b)))) [.row o e [.int .i64] (P ++ a.map irow), .row o2 e2 [.int .i64] (Q ++ b.map irow)]
theorem sameO_ok : SOK Tryd.prog 17 sameOS := by
  refine TOK.weaken (runF_eq G0_ok mixed at17.1 at17.2 pf17_eq) fun args hp M K h => ?_
  obtain ⟨P, Q, a, b, o, o2, e, e2, rfl, rfl, h1, h2, h3⟩ := h
  exact sameO_run M K P Q a b o o2 e e2 h1 h2 h3
/-- What was taken: the register, the name, the old one; and where it is written down. -/
structure Tk where
  r : Nat
  a : Int
  b : Int
  y : Value
deriving Inhabited
/-- From the start to here, the last one first. -/
def Path (n : Nat) : List Tk → List Int → List Int → Prop
  | [], of, fr => of = rng 0 32 ∧ fr = rng 32 (n - 32)
  | t :: ts, of, fr => ∃ of', Path n ts of' (t.a :: fr) ∧ of = of'.set t.r t.a ∧ t.b = of'.getD t.r 0 ∧ 1 ≤ t.r ∧ t.r < 32
theorem path_is {n : Nat} (hn : 33 ≤ n) : ∀ {ts : List Tk} {of fr : List Int}, Path n ts of fr → of.length = 32 ∧ fr.length + ts.length = n - 32 ∧ (of ++ fr).Nodup ∧ ∀ x ∈ of ++ fr, 0 ≤ x ∧ x < n
  | [], of, fr, h => by
    obtain ⟨rfl, rfl⟩ := h
    have hs := nice_start hn
    exact ⟨hs.l1, by simpa using hs.l2, hs.nd, hs.rg⟩
  | t :: ts, of, fr, h => by
    obtain ⟨of', hp, rfl, hb, h1, h2⟩ := h
    obtain ⟨i1, i2, i3, i4⟩ := path_is hn hp
    have hperm := set_perm of' fr t.a (r := t.r) (by omega)
    have hnd := hperm.nodup_iff.2 i3
    have hsub : (of'.set t.r t.a ++ fr).Sublist (of'.set t.r t.a ++ (fr ++ [of'.getD t.r 0])) := List.Sublist.append (List.Sublist.refl _) (List.sublist_append_left _ _)
    refine ⟨by simpa using i1, by simp at i2 ⊢; omega, hnd.sublist hsub, fun x hx => i4 x (hperm.mem_iff.1 (hsub.subset hx))⟩
theorem path_undo {n : Nat} (hn : 33 ≤ n) {t : Tk} {ts : List Tk} {of fr : List Int} (h : Path n (t :: ts) of fr) : of.getD t.r 0 = t.a ∧ looseB n of fr t.b = true ∧ (1 ≤ t.r ∧ t.r < 32) ∧ Path n ts (of.set t.r t.b) (t.a :: fr) := by
  obtain ⟨of', hp, rfl, hb, h1, h2⟩ := h
  obtain ⟨i1, i2, i3, i4⟩ := path_is hn hp
  have hperm := set_perm of' fr t.a (r := t.r) (by omega)
  have hnd := hperm.nodup_iff.2 i3
  have hin := i4 t.b (hperm.mem_iff.1 (by rw [← hb]; simp))
  rw [← hb, ← List.append_assoc] at hnd
  have hno : ¬ t.b ∈ of'.set t.r t.a ++ fr := fun hm => (List.nodup_append.1 hnd).2.2 _ hm _ (List.mem_singleton.2 rfl) rfl
  rw [List.mem_append, not_or] at hno
  refine ⟨by simp [List.getD, i1, h2], decide_eq_true ⟨hin.1, hin.2, hno.2, hno.1⟩, ⟨h1, h2⟩, ?_⟩
  have e : (of'.set t.r t.a).set t.r t.b = of' := by
    rw [List.set_set, hb]
    apply List.ext_getElem?
    intro j
    by_cases hj : t.r = j
    · subst hj
      rw [List.getElem?_set_self (by omega)]
      simp [List.getD, i1, h2]
    · rw [List.getElem?_set_ne hj]
  rw [e]
  exact hp
/-- The rows of what was taken lie there. -/
def TkIn (M : HL) (ts : List Tk) : Prop := ∀ t ∈ ts, Vc.RowsIn M 3 [.int .i64] t.y [irow t.r, irow t.a, irow t.b]
theorem TkIn.mono {M M' : HL} {ts : List Tk} (h : TkIn M ts) (hM : FLe M M') : TkIn M' ts := fun t ht => Vc.RowsIn.mono hM (h t ht)
def trow (t : Tk) : List Value := [t.y]
end Go.Proofs.YtlbjheknhoigpaaDoor
