/-
  RenamePlays: what is left to walk; its frame.
-/
import Derived.Test.YtlbjheknhoigpaaDoorCk
import Derived.Test.YtlbjheknhoigpaaDoorCs
namespace Go.Proofs.YtlbjheknhoigpaaDoor
open Go Go.Vc
set_option maxRecDepth 100000
set_option linter.unusedSimpArgs false
set_option linter.unusedVariables false
theorem allQ_run (M : HL) (K : SV → List Ent → HL → Prop) (n : Int) (of fr : List Int) (ho : of.length = 32) (hK : K (.slc 3 1 0 32) (renHp false n of fr ++ [.row true 3 [.int .i64] (of.map irow)]) M) :
    runF G2 pf15 [.ptr 0 0 0 0] (renHp false n of fr) M fun v hp2 M2 => ∃ m v' hp', Wk (llen (renHp false n of fr)) m [v] hp2 [v'] hp' (K v' hp' M2) := by
  repeat ((conv => whnf); (first | refine Cnd.yes ?_ | refine Cnd.no ?_ | refine And.intro rfl ?_ | refine And.intro (by omega) ?_ | (refine And.intro ?_ ?_; focus (simp only [IntKind.wrap_i64, IntKind.wrap_u64, IntKind.wrap_u32]; omega)) | (refine And.intro ?_ ?_; focus (first | (simp only [tblOf_len, List.length_map, List.length_append, List.length_cons, List.length_nil, List.length_take, List.length_drop, List.length_replicate]; omega) | (simp only [tblOf_len, List.length_map, List.length_append, List.length_cons, List.length_nil, List.length_take, List.length_drop, List.length_replicate]; done)))))
  conv => whnf
  refine ⟨fun h0 => ?_, fun h0 => by omega⟩
  repeat ((conv => whnf); (first | refine Cnd.yes ?_ | refine Cnd.no ?_ | refine And.intro rfl ?_ | refine And.intro (by omega) ?_ | (refine And.intro ?_ ?_; focus (simp only [IntKind.wrap_i64, IntKind.wrap_u64, IntKind.wrap_u32]; omega)) | (refine And.intro ?_ ?_; focus (first | (simp only [tblOf_len, List.length_map, List.length_append, List.length_cons, List.length_nil, List.length_take, List.length_drop, List.length_replicate]; omega) | (simp only [tblOf_len, List.length_map, List.length_append, List.length_cons, List.length_nil, List.length_take, List.length_drop, List.length_replicate]; done)))))
  conv => whnf
  rw [ho]
  refine ⟨[0, 1, 2, 4], .slc 3 1 0 32, renHp false n of fr ++ [.row true 3 [.int .i64] (of.map irow)], ?_⟩
  repeat ((conv => whnf); (first | refine Cnd.yes ?_ | refine Cnd.no ?_ | refine And.intro rfl ?_ | refine And.intro (by omega) ?_ | (refine And.intro ?_ ?_; focus (simp only [IntKind.wrap_i64, IntKind.wrap_u64, IntKind.wrap_u32]; omega)) | (refine And.intro ?_ ?_; focus (first | (simp only [tblOf_len, List.length_map, List.length_append, List.length_cons, List.length_nil, List.length_take, List.length_drop, List.length_replicate]; omega) | (simp only [tblOf_len, List.length_map, List.length_append, List.length_cons, List.length_nil, List.length_take, List.length_drop, List.length_replicate]; done)))))
  conv => whnf
  refine ⟨by rw [List.take_of_length_le (l := List.drop 0 (of.map irow)) (by simp; omega)]; rfl, ?_⟩
  repeat ((conv => whnf); (first | refine Cnd.yes ?_ | refine Cnd.no ?_ | refine And.intro rfl ?_ | refine And.intro (by omega) ?_ | (refine And.intro ?_ ?_; focus (simp only [IntKind.wrap_i64, IntKind.wrap_u64, IntKind.wrap_u32]; omega)) | (refine And.intro ?_ ?_; focus (first | (simp only [tblOf_len, List.length_map, List.length_append, List.length_cons, List.length_nil, List.length_take, List.length_drop, List.length_replicate]; omega) | (simp only [tblOf_len, List.length_map, List.length_append, List.length_cons, List.length_nil, List.length_take, List.length_drop, List.length_replicate]; done)))))
  conv => whnf
  exact hK
def allQS : Vc.Spec := fun args hp _ K => ∃ (n : Int) (of fr : List Int), args = [.ptr 0 0 0 0] ∧ hp = renHp false n of fr ∧ of.length = 32 ∧ K (.slc 3 1 0 32) (renHp false n of fr ++ [.row true 3 [.int .i64] (of.map irow)])
theorem allQ_ok : SOK Tryd.prog 15 allQS := by
  refine TOK.weaken (TOK.out (runF_eq G2_ok mixed at15.1 at15.2 pf15_eq)) fun args hp M K h => ?_
  obtain ⟨n, of, fr, rfl, rfl, h1, h2⟩ := h
  exact allQ_run M K n of fr h1 h2
def ofN (of : List Int) (a : Int) : Int := if 0 ≤ a ∧ a < 32 then of.getD a.toNat 0 else -1
theorem of_runT (M : HL) (K : SV → List Ent → HL → Prop) (n : Int) (of fr : List Int) (a : Int) (ho : of.length = 32) (hK : K (.v (.int .i64 (ofN of a))) (renHp true n of fr) M) :
    runF G2 pf10 [.ptr 0 0 0 0, .v (.int .i64 a)] (renHp true n of fr) M K := by
  unfold ofN at hK
  by_cases h : 0 ≤ a ∧ a < 32
  · rw [if_pos h] at hK
    obtain ⟨q, rfl⟩ : ∃ q : Nat, a = q := ⟨a.toNat, by omega⟩
    have e0 := toI_i (l := of) (i := q) (by omega)
    rw [Int.toNat_natCast] at hK
    repeat ((repeat ((conv => whnf); (first | refine Cnd.yes ?_ | refine Cnd.no ?_ | refine And.intro rfl ?_ | refine And.intro (by omega) ?_ | (refine And.intro ?_ ?_; focus (simp only [IntKind.wrap_i64, IntKind.wrap_u64, IntKind.wrap_u32]; omega)) | (refine And.intro ?_ ?_; focus (first | (simp only [tblOf_len, List.length_map, List.length_append, List.length_cons, List.length_nil, List.length_take, List.length_drop, List.length_replicate]; omega) | (simp only [tblOf_len, List.length_map, List.length_append, List.length_cons, List.length_nil, List.length_take, List.length_drop, List.length_replicate]; done)))))); (conv => whnf); (first | (refine Cnd.tt ?_ ?_; focus (first | (apply decide_eq_true; omega) | (simp only [beq_iff_eq, bne_iff_ne, beq_eq_false_iff_ne, bne_eq_false_iff_eq, ne_eq, Bool.not_eq_true', Bool.not_eq_false', Bool.not_eq_eq_eq_not, Bool.not_true, Bool.not_false, decide_eq_true_eq, decide_eq_false_iff_not]; omega) | rfl)) | (refine Cnd.ff ?_ ?_; focus (first | (apply decide_eq_false; omega) | (simp only [beq_iff_eq, bne_iff_ne, beq_eq_false_iff_ne, bne_eq_false_iff_eq, ne_eq, Bool.not_eq_true', Bool.not_eq_false', Bool.not_eq_eq_eq_not, Bool.not_true, Bool.not_false, decide_eq_true_eq, decide_eq_false_iff_not]; omega) | rfl))))
    repeat ((conv => whnf); (first | refine Cnd.yes ?_ | refine Cnd.no ?_ | refine And.intro rfl ?_ | refine And.intro (by omega) ?_ | (refine And.intro ?_ ?_; focus (simp only [IntKind.wrap_i64, IntKind.wrap_u64, IntKind.wrap_u32]; omega)) | (refine And.intro ?_ ?_; focus (first | (simp only [tblOf_len, List.length_map, List.length_append, List.length_cons, List.length_nil, List.length_take, List.length_drop, List.length_replicate]; omega) | (simp only [tblOf_len, List.length_map, List.length_append, List.length_cons, List.length_nil, List.length_take, List.length_drop, List.length_replicate]; done)))))
    conv => whnf
    rw [e0]
    exact hK
  · rw [if_neg h] at hK
    by_cases h1 : a < 0
    · repeat ((repeat ((conv => whnf); (first | refine Cnd.yes ?_ | refine Cnd.no ?_ | refine And.intro rfl ?_ | refine And.intro (by omega) ?_ | (refine And.intro ?_ ?_; focus (simp only [IntKind.wrap_i64, IntKind.wrap_u64, IntKind.wrap_u32]; omega)) | (refine And.intro ?_ ?_; focus (first | (simp only [tblOf_len, List.length_map, List.length_append, List.length_cons, List.length_nil, List.length_take, List.length_drop, List.length_replicate]; omega) | (simp only [tblOf_len, List.length_map, List.length_append, List.length_cons, List.length_nil, List.length_take, List.length_drop, List.length_replicate]; done)))))); (conv => whnf); (first | (refine Cnd.tt ?_ ?_; focus (first | (apply decide_eq_true; omega) | (simp only [beq_iff_eq, bne_iff_ne, beq_eq_false_iff_ne, bne_eq_false_iff_eq, ne_eq, Bool.not_eq_true', Bool.not_eq_false', Bool.not_eq_eq_eq_not, Bool.not_true, Bool.not_false, decide_eq_true_eq, decide_eq_false_iff_not]; omega) | rfl)) | (refine Cnd.ff ?_ ?_; focus (first | (apply decide_eq_false; omega) | (simp only [beq_iff_eq, bne_iff_ne, beq_eq_false_iff_ne, bne_eq_false_iff_eq, ne_eq, Bool.not_eq_true', Bool.not_eq_false', Bool.not_eq_eq_eq_not, Bool.not_true, Bool.not_false, decide_eq_true_eq, decide_eq_false_iff_not]; omega) | rfl))))
      repeat ((conv => whnf); (first | refine Cnd.yes ?_ | refine Cnd.no ?_ | refine And.intro rfl ?_ | refine And.intro (by omega) ?_ | (refine And.intro ?_ ?_; focus (simp only [IntKind.wrap_i64, IntKind.wrap_u64, IntKind.wrap_u32]; omega)) | (refine And.intro ?_ ?_; focus (first | (simp only [tblOf_len, List.length_map, List.length_append, List.length_cons, List.length_nil, List.length_take, List.length_drop, List.length_replicate]; omega) | (simp only [tblOf_len, List.length_map, List.length_append, List.length_cons, List.length_nil, List.length_take, List.length_drop, List.length_replicate]; done)))))
      conv => whnf
      exact hK
    · repeat ((repeat ((conv => whnf); (first | refine Cnd.yes ?_ | refine Cnd.no ?_ | refine And.intro rfl ?_ | refine And.intro (by omega) ?_ | (refine And.intro ?_ ?_; focus (simp only [IntKind.wrap_i64, IntKind.wrap_u64, IntKind.wrap_u32]; omega)) | (refine And.intro ?_ ?_; focus (first | (simp only [tblOf_len, List.length_map, List.length_append, List.length_cons, List.length_nil, List.length_take, List.length_drop, List.length_replicate]; omega) | (simp only [tblOf_len, List.length_map, List.length_append, List.length_cons, List.length_nil, List.length_take, List.length_drop, List.length_replicate]; done)))))); (conv => whnf); (first | (refine Cnd.tt ?_ ?_; focus (first | (apply decide_eq_true; omega) | (simp only [beq_iff_eq, bne_iff_ne, beq_eq_false_iff_ne, bne_eq_false_iff_eq, ne_eq, Bool.not_eq_true', Bool.not_eq_false', Bool.not_eq_eq_eq_not, Bool.not_true, Bool.not_false, decide_eq_true_eq, decide_eq_false_iff_not]; omega) | rfl)) | (refine Cnd.ff ?_ ?_; focus (first | (apply decide_eq_false; omega) | (simp only [beq_iff_eq, bne_iff_ne, beq_eq_false_iff_ne, bne_eq_false_iff_eq, ne_eq, Bool.not_eq_true', Bool.not_eq_false', Bool.not_eq_eq_eq_not, Bool.not_true, Bool.not_false, decide_eq_true_eq, decide_eq_false_iff_not]; omega) | rfl))))
      repeat ((conv => whnf); (first | refine Cnd.yes ?_ | refine Cnd.no ?_ | refine And.intro rfl ?_ | refine And.intro (by omega) ?_ | (refine And.intro ?_ ?_; focus (simp only [IntKind.wrap_i64, IntKind.wrap_u64, IntKind.wrap_u32]; omega)) | (refine And.intro ?_ ?_; focus (first | (simp only [tblOf_len, List.length_map, List.length_append, List.length_cons, List.length_nil, List.length_take, List.length_drop, List.length_replicate]; omega) | (simp only [tblOf_len, List.length_map, List.length_append, List.length_cons, List.length_nil, List.length_take, List.length_drop, List.length_replicate]; done)))))
      conv => whnf
      exact hK
theorem of_runF (M : HL) (K : SV → List Ent → HL → Prop) (n : Int) (of fr : List Int) (a : Int) (ho : of.length = 32) (hK : K (.v (.int .i64 (ofN of a))) (renHp false n of fr) M) :
    runF G2 pf10 [.ptr 0 0 0 0, .v (.int .i64 a)] (renHp false n of fr) M K := by
  unfold ofN at hK
  by_cases h : 0 ≤ a ∧ a < 32
  · rw [if_pos h] at hK
    obtain ⟨q, rfl⟩ : ∃ q : Nat, a = q := ⟨a.toNat, by omega⟩
    have e0 := toI_i (l := of) (i := q) (by omega)
    rw [Int.toNat_natCast] at hK
    repeat ((repeat ((conv => whnf); (first | refine Cnd.yes ?_ | refine Cnd.no ?_ | refine And.intro rfl ?_ | refine And.intro (by omega) ?_ | (refine And.intro ?_ ?_; focus (simp only [IntKind.wrap_i64, IntKind.wrap_u64, IntKind.wrap_u32]; omega)) | (refine And.intro ?_ ?_; focus (first | (simp only [tblOf_len, List.length_map, List.length_append, List.length_cons, List.length_nil, List.length_take, List.length_drop, List.length_replicate]; omega) | (simp only [tblOf_len, List.length_map, List.length_append, List.length_cons, List.length_nil, List.length_take, List.length_drop, List.length_replicate]; done)))))); (conv => whnf); (first | (refine Cnd.tt ?_ ?_; focus (first | (apply decide_eq_true; omega) | (simp only [beq_iff_eq, bne_iff_ne, beq_eq_false_iff_ne, bne_eq_false_iff_eq, ne_eq, Bool.not_eq_true', Bool.not_eq_false', Bool.not_eq_eq_eq_not, Bool.not_true, Bool.not_false, decide_eq_true_eq, decide_eq_false_iff_not]; omega) | rfl)) | (refine Cnd.ff ?_ ?_; focus (first | (apply decide_eq_false; omega) | (simp only [beq_iff_eq, bne_iff_ne, beq_eq_false_iff_ne, bne_eq_false_iff_eq, ne_eq, Bool.not_eq_true', Bool.not_eq_false', Bool.not_eq_eq_eq_not, Bool.not_true, Bool.not_false, decide_eq_true_eq, decide_eq_false_iff_not]; omega) | rfl))))
    repeat ((conv => whnf); (first | refine Cnd.yes ?_ | refine Cnd.no ?_ | refine And.intro rfl ?_ | refine And.intro (by omega) ?_ | (refine And.intro ?_ ?_; focus (simp only [IntKind.wrap_i64, IntKind.wrap_u64, IntKind.wrap_u32]; omega)) | (refine And.intro ?_ ?_; focus (first | (simp only [tblOf_len, List.length_map, List.length_append, List.length_cons, List.length_nil, List.length_take, List.length_drop, List.length_replicate]; omega) | (simp only [tblOf_len, List.length_map, List.length_append, List.length_cons, List.length_nil, List.length_take, List.length_drop, List.length_replicate]; done)))))
    conv => whnf
    rw [e0]
    exact hK
  · rw [if_neg h] at hK
    by_cases h1 : a < 0
    · repeat ((repeat ((conv => whnf); (first | refine Cnd.yes ?_ | refine Cnd.no ?_ | refine And.intro rfl ?_ | refine And.intro (by omega) ?_ | (refine And.intro ?_ ?_; focus (simp only [IntKind.wrap_i64, IntKind.wrap_u64, IntKind.wrap_u32]; omega)) | (refine And.intro ?_ ?_; focus (first | (simp only [tblOf_len, List.length_map, List.length_append, List.length_cons, List.length_nil, List.length_take, List.length_drop, List.length_replicate]; omega) | (simp only [tblOf_len, List.length_map, List.length_append, List.length_cons, List.length_nil, List.length_take, List.length_drop, List.length_replicate]; done)))))); (conv => whnf); (first | (refine Cnd.tt ?_ ?_; focus (first | (apply decide_eq_true; omega) | (simp only [beq_iff_eq, bne_iff_ne, beq_eq_false_iff_ne, bne_eq_false_iff_eq, ne_eq, Bool.not_eq_true', Bool.not_eq_false', Bool.not_eq_eq_eq_not, Bool.not_true, Bool.not_false, decide_eq_true_eq, decide_eq_false_iff_not]; omega) | rfl)) | (refine Cnd.ff ?_ ?_; focus (first | (apply decide_eq_false; omega) | (simp only [beq_iff_eq, bne_iff_ne, beq_eq_false_iff_ne, bne_eq_false_iff_eq, ne_eq, Bool.not_eq_true', Bool.not_eq_false', Bool.not_eq_eq_eq_not, Bool.not_true, Bool.not_false, decide_eq_true_eq, decide_eq_false_iff_not]; omega) | rfl))))
      repeat ((conv => whnf); (first | refine Cnd.yes ?_ | refine Cnd.no ?_ | refine And.intro rfl ?_ | refine And.intro (by omega) ?_ | (refine And.intro ?_ ?_; focus (simp only [IntKind.wrap_i64, IntKind.wrap_u64, IntKind.wrap_u32]; omega)) | (refine And.intro ?_ ?_; focus (first | (simp only [tblOf_len, List.length_map, List.length_append, List.length_cons, List.length_nil, List.length_take, List.length_drop, List.length_replicate]; omega) | (simp only [tblOf_len, List.length_map, List.length_append, List.length_cons, List.length_nil, List.length_take, List.length_drop, List.length_replicate]; done)))))
      conv => whnf
      exact hK
    · repeat ((repeat ((conv => whnf); (first | refine Cnd.yes ?_ | refine Cnd.no ?_ | refine And.intro rfl ?_ | refine And.intro (by omega) ?_ | (refine And.intro ?_ ?_; focus (simp only [IntKind.wrap_i64, IntKind.wrap_u64, IntKind.wrap_u32]; omega)) | (refine And.intro ?_ ?_; focus (first | (simp only [tblOf_len, List.length_map, List.length_append, List.length_cons, List.length_nil, List.length_take, List.length_drop, List.length_replicate]; omega) | (simp only [tblOf_len, List.length_map, List.length_append, List.length_cons, List.length_nil, List.length_take, List.length_drop, List.length_replicate]; done)))))); (conv => whnf); (first | (refine Cnd.tt ?_ ?_; focus (first | (apply decide_eq_true; omega) | (simp only [beq_iff_eq, bne_iff_ne, beq_eq_false_iff_ne, bne_eq_false_iff_eq, ne_eq, Bool.not_eq_true', Bool.not_eq_false', Bool.not_eq_eq_eq_not, Bool.not_true, Bool.not_false, decide_eq_true_eq, decide_eq_false_iff_not]; omega) | rfl)) | (refine Cnd.ff ?_ ?_; focus (first | (apply decide_eq_false; omega) | (simp only [beq_iff_eq, bne_iff_ne, beq_eq_false_iff_ne, bne_eq_false_iff_eq, ne_eq, Bool.not_eq_true', Bool.not_eq_false', Bool.not_eq_eq_eq_not, Bool.not_true, Bool.not_false, decide_eq_true_eq, decide_eq_false_iff_not]; omega) | rfl))))
      repeat ((conv => whnf); (first | refine Cnd.yes ?_ | refine Cnd.no ?_ | refine And.intro rfl ?_ | refine And.intro (by omega) ?_ | (refine And.intro ?_ ?_; focus (simp only [IntKind.wrap_i64, IntKind.wrap_u64, IntKind.wrap_u32]; omega)) | (refine And.intro ?_ ?_; focus (first | (simp only [tblOf_len, List.length_map, List.length_append, List.length_cons, List.length_nil, List.length_take, List.length_drop, List.length_replicate]; omega) | (simp only [tblOf_len, List.length_map, List.length_append, List.length_cons, List.length_nil, List.length_take, List.length_drop, List.length_replicate]; done)))))
      conv => whnf
      exact hK
def ofS : Vc.Spec := fun args hp _ K => ∃ (o : Bool) (n : Int) (of fr : List Int) (a : Int), args = [.ptr 0 0 0 0, .v (.int .i64 a)] ∧ hp = renHp o n of fr ∧ of.length = 32 ∧ K (.v (.int .i64 (ofN of a))) (renHp o n of fr)
theorem of_ok : SOK Tryd.prog 10 ofS := by
  refine TOK.weaken (runF_eq G2_ok mixed at10.1 at10.2 pf10_eq) fun args hp M K h => ?_
  obtain ⟨o, n, of, fr, a, rfl, rfl, h1, h2⟩ := h
  cases o with
  | true => exact of_runT M K n of fr a h1 h2
  | false => exact of_runF M K n of fr a h1 h2
noncomputable def specsP : Nat → Option Vc.Trans := tget [(6, frameT firstS), (8, frameT newS), (18, frameT isS), (19, frameT xnewS), (9, frameT takeS), (20, frameT xtakeS), (11, openAt (frameT freeS) 1), (21, openAt (frameT giveS) 1), (16, frameT undoS), (22, frameT xundoS), (15, orT (frameT allS) (frameT allQS)), (17, frameT sameS), (10, frameT ofS)]
noncomputable def GP : Nat → Option Vc.Trans := tabG specsP (tget tab) 5
theorem GP_ok : GOK Tryd.prog GP := tabG_ok (GOK.cons (frame_ok first_ok) (GOK.cons (frame_ok new_ok) (GOK.cons (frame_ok is_ok) (GOK.cons (frame_ok xnew_ok) (GOK.cons (frame_ok take_ok) (GOK.cons (frame_ok xtake_ok) (GOK.cons (openAt_ok (frame_ok free_ok) 1) (GOK.cons (openAt_ok (frame_ok give_ok) 1) (GOK.cons (frame_ok undo_ok) (GOK.cons (frame_ok xundo_ok) (GOK.cons (orT_ok (frame_ok all_ok) (frame_ok allQ_ok)) (GOK.cons (frame_ok same_ok) (GOK.cons (frame_ok of_ok) .nil))))))))))))) tab_ok 5
/-- What the map is told. -/
structure Do where
  k : Int
  r : Int
  nm : Int
  old : Int
  y : Value
  l : List Int
deriving Inhabited
def dck : List CK := [.int .i64, .int .i64, .int .i64, .int .i64, .sl]
def drow (d : Do) : List Value := [.int .i64 d.k, .int .i64 d.r, .int .i64 d.nm, .int .i64 d.old, d.y]
def DosIn (M : HL) (ds : List Do) : Prop := ∀ d ∈ ds, ∃ e, Vc.RowsIn M e [.int .i64] d.y (d.l.map irow)
end Go.Proofs.YtlbjheknhoigpaaDoor
