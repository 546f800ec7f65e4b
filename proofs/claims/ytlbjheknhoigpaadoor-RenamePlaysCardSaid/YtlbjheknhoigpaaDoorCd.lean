/-
  The chapter's examples, and RenameFrees, walked.
-/
import Derived.Test.YtlbjheknhoigpaaDoorCc
namespace Go.Proofs.YtlbjheknhoigpaaDoor
open Go Go.Vc
set_option maxRecDepth 100000
set_option linter.unusedSimpArgs false
set_option linter.unusedVariables false
set_option maxHeartbeats 4000000 in
theorem first_run (M : HL) (K : SV → List Ent → HL → Prop) (hK : K (.v (.bool true)) [] M) : runF G3 pf6 [] [] M fun v hp2 M2 => ∃ m v' hp', Wk (llen ([] : List Ent)) m [v] hp2 [v'] hp' (K v' hp' M2) := by
  repeat ((conv => whnf); (first | refine Cnd.yes ?_ | refine Cnd.no ?_ | refine And.intro rfl ?_ | refine And.intro (by omega) ?_ | (refine And.intro ?_ ?_; focus (simp only [IntKind.wrap_i64, IntKind.wrap_u64, IntKind.wrap_u32]; omega)) | (refine And.intro ?_ ?_; focus (first | (simp only [tblOf_len, List.length_map, List.length_append, List.length_cons, List.length_nil, List.length_take, List.length_drop, List.length_replicate]; omega) | (simp only [tblOf_len, List.length_map, List.length_append, List.length_cons, List.length_nil, List.length_take, List.length_drop, List.length_replicate]; done)))))
  conv => whnf
  refine .inl ⟨33, rfl, rfl, by omega, by omega, ?_⟩
  repeat ((conv => whnf); (first | refine Cnd.yes ?_ | refine Cnd.no ?_ | refine And.intro rfl ?_ | refine And.intro (by omega) ?_ | (refine And.intro ?_ ?_; focus (simp only [IntKind.wrap_i64, IntKind.wrap_u64, IntKind.wrap_u32]; omega)) | (refine And.intro ?_ ?_; focus (first | (simp only [tblOf_len, List.length_map, List.length_append, List.length_cons, List.length_nil, List.length_take, List.length_drop, List.length_replicate]; omega) | (simp only [tblOf_len, List.length_map, List.length_append, List.length_cons, List.length_nil, List.length_take, List.length_drop, List.length_replicate]; done)))))
  conv => whnf
  refine .inr ⟨33, rng 0 32, [], 32, 5, rfl, rfl, by omega, rfl, by simp, ?_⟩
  repeat ((conv => whnf); (first | refine Cnd.yes ?_ | refine Cnd.no ?_ | refine And.intro rfl ?_ | refine And.intro (by omega) ?_ | (refine And.intro ?_ ?_; focus (simp only [IntKind.wrap_i64, IntKind.wrap_u64, IntKind.wrap_u32]; omega)) | (refine And.intro ?_ ?_; focus (first | (simp only [tblOf_len, List.length_map, List.length_append, List.length_cons, List.length_nil, List.length_take, List.length_drop, List.length_replicate]; omega) | (simp only [tblOf_len, List.length_map, List.length_append, List.length_cons, List.length_nil, List.length_take, List.length_drop, List.length_replicate]; done)))))
  conv => whnf
  refine .inl ⟨33, (rng 0 32).set 5 32, [], 6, rfl, rfl, .inr (.inr rfl), by simp, ?_⟩
  repeat ((conv => whnf); (first | refine Cnd.yes ?_ | refine Cnd.no ?_ | refine And.intro rfl ?_ | refine And.intro (by omega) ?_ | (refine And.intro ?_ ?_; focus (simp only [IntKind.wrap_i64, IntKind.wrap_u64, IntKind.wrap_u32]; omega)) | (refine And.intro ?_ ?_; focus (first | (simp only [tblOf_len, List.length_map, List.length_append, List.length_cons, List.length_nil, List.length_take, List.length_drop, List.length_replicate]; omega) | (simp only [tblOf_len, List.length_map, List.length_append, List.length_cons, List.length_nil, List.length_take, List.length_drop, List.length_replicate]; done)))))
  conv => whnf
  refine ⟨33, (rng 0 32).set 5 32, [], 3, true, [5], rfl, rfl, by decide, by simp, by simp, ?_⟩
  rw [if_neg (by decide)]
  repeat ((conv => whnf); (first | refine Cnd.yes ?_ | refine Cnd.no ?_ | refine And.intro rfl ?_ | refine And.intro (by omega) ?_ | (refine And.intro ?_ ?_; focus (simp only [IntKind.wrap_i64, IntKind.wrap_u64, IntKind.wrap_u32]; omega)) | (refine And.intro ?_ ?_; focus (first | (simp only [tblOf_len, List.length_map, List.length_append, List.length_cons, List.length_nil, List.length_take, List.length_drop, List.length_replicate]; omega) | (simp only [tblOf_len, List.length_map, List.length_append, List.length_cons, List.length_nil, List.length_take, List.length_drop, List.length_replicate]; done)))))
  conv => whnf
  refine .inr ⟨33, (rng 0 32).set 5 32, [], 5, 6, rfl, rfl, by omega, by decide, by simp, ?_⟩
  repeat ((conv => whnf); (first | refine Cnd.yes ?_ | refine Cnd.no ?_ | refine And.intro rfl ?_ | refine And.intro (by omega) ?_ | (refine And.intro ?_ ?_; focus (simp only [IntKind.wrap_i64, IntKind.wrap_u64, IntKind.wrap_u32]; omega)) | (refine And.intro ?_ ?_; focus (first | (simp only [tblOf_len, List.length_map, List.length_append, List.length_cons, List.length_nil, List.length_take, List.length_drop, List.length_replicate]; omega) | (simp only [tblOf_len, List.length_map, List.length_append, List.length_cons, List.length_nil, List.length_take, List.length_drop, List.length_replicate]; done)))))
  conv => whnf
  refine ⟨[], .v (.bool true), [], ?_⟩
  repeat ((conv => whnf); (first | refine Cnd.yes ?_ | refine Cnd.no ?_ | refine And.intro rfl ?_ | refine And.intro (by omega) ?_ | (refine And.intro ?_ ?_; focus (simp only [IntKind.wrap_i64, IntKind.wrap_u64, IntKind.wrap_u32]; omega)) | (refine And.intro ?_ ?_; focus (first | (simp only [tblOf_len, List.length_map, List.length_append, List.length_cons, List.length_nil, List.length_take, List.length_drop, List.length_replicate]; omega) | (simp only [tblOf_len, List.length_map, List.length_append, List.length_cons, List.length_nil, List.length_take, List.length_drop, List.length_replicate]; done)))))
  conv => whnf
  exact hK
def firstS : Vc.Spec := fun args hp _ K => args = [] ∧ hp = [] ∧ K (.v (.bool true)) []
theorem first_ok : SOK Tryd.prog 6 firstS := by
  refine TOK.weaken (TOK.out (runF_eq G3_ok mixed at6.1 at6.2 pf6_eq)) fun args hp M K h => ?_
  obtain ⟨rfl, rfl, h⟩ := h
  exact first_run M K h
noncomputable def specs4 : Nat → Option Vc.Trans := tget [(6, frameT firstS), (7, frameT numS), (28, frameT hasS), (24, frameT looseS), (9, frameT takeS), (8, frameT newS), (16, frameT undoS), (15, frameT allS), (11, frameT freeS), (14, frameT intsS), (13, frameT sortS)]
noncomputable def G4 : Nat → Option Vc.Trans := tabG specs4 (tget tab) 5
theorem G4_ok : GOK Tryd.prog G4 := tabG_ok (GOK.cons (frame_ok first_ok) (GOK.cons (frame_ok num_ok) (GOK.cons (frame_ok has_ok) (GOK.cons (frame_ok loose_ok) (GOK.cons (frame_ok take_ok) (GOK.cons (frame_ok new_ok) (GOK.cons (frame_ok undo_ok) (GOK.cons (frame_ok all_ok) (GOK.cons (frame_ok free_ok) (GOK.cons (frame_ok ints_ok) (GOK.cons (frame_ok sort_ok) .nil))))))))))) tab_ok 5
/-- What holds of the names at all times. -/
structure Nice (n : Nat) (of fr : List Int) : Prop where
  l1 : of.length = 32
  l2 : fr.length = n - 32
  nd : (of ++ fr).Nodup
  rg : ∀ x ∈ of ++ fr, 0 ≤ x ∧ x < n
  z : of.getD 0 0 = 0
theorem nice_start {n : Nat} (h : 33 ≤ n) : Nice n (rng 0 32) (rng 32 (n - 32)) := by
  have e : rng 0 32 ++ rng 32 (n - 32) = rng 0 n := by
    unfold rng
    conv => rhs; rw [show n = 32 + (n - 32) by omega, List.range_add, List.map_append, List.map_map]
    congr 1
    refine List.map_congr_left fun j _ => ?_
    simp only [Function.comp]
    omega
  refine ⟨rng_len _ _, rng_len _ _, ?_, ?_, rfl⟩
  · rw [e, rng]
    exact List.Pairwise.map _ (fun a b (h : a ≠ b) => by simp; omega) List.nodup_range
  · rw [e, rng]
    intro x hx
    obtain ⟨j, hj, rfl⟩ := List.mem_map.1 hx
    have := List.mem_range.1 hj
    omega
theorem set_perm (of tl : List Int) (f : Int) {r : Nat} (h : r < of.length) : (of.set r f ++ (tl ++ [of.getD r 0])).Perm (of ++ f :: tl) := by
  have e1 : of = of.take r ++ of.getD r 0 :: of.drop (r + 1) := by
    have : of.getD r 0 = of[r] := by simp [List.getD, List.getElem?_eq_getElem h]
    rw [this, ← List.drop_eq_getElem_cons h, List.take_append_drop]
  have e2 : of.set r f = of.take r ++ f :: of.drop (r + 1) := by rw [List.set_eq_take_append_cons_drop, if_pos h]
  generalize of.getD r 0 = o at e1 ⊢
  rw [e2]
  conv => rhs; rw [e1]
  refine List.perm_iff_count.2 fun a => ?_
  simp only [List.count_append, List.count_cons, List.count_nil]
  omega
theorem nice_step {n : Nat} {of tl : List Int} {f : Int} {r : Nat} (h : Nice n of (f :: tl)) (hr : 1 ≤ r ∧ r < 32) : Nice n (of.set r f) (tl ++ [of.getD r 0]) := by
  have hl := h.l1
  have hp := set_perm of tl f (r := r) (by omega)
  refine ⟨by simp [hl], by have := h.l2; simp at this ⊢; omega, hp.nodup_iff.2 h.nd, fun x hx => h.rg x (hp.mem_iff.1 hx), ?_⟩
  have := h.z
  simp only [List.getD] at this ⊢
  rw [List.getElem?_set_ne (by omega)]
  exact this
theorem nice_free {n : Nat} {of tl : List Int} {f : Int} {r : Nat} (h : Nice n of (f :: tl)) (hr : 1 ≤ r ∧ r < 32) :
    freeL n (of.set r f) [of.getD r 0, of.getD r 0, f, -1, n] (tl, 0) = (tl ++ [of.getD r 0], 1) := by
  have h2 := nice_step h hr
  have hl := h.l1
  have hnd := List.nodup_append.1 h2.nd
  have ho := h2.rg (of.getD r 0) (by simp)
  have hof : f ∈ of.set r f := List.mem_of_getElem? (i := r) (by rw [List.getElem?_set_self (by omega)])
  have hno : ¬ of.getD r 0 ∈ of.set r f := fun hm => hnd.2.2 _ hm _ (by simp) rfl
  have hnt : ¬ of.getD r 0 ∈ tl := fun hm => by
    have := (List.nodup_append.1 hnd.2.1).2.2 _ hm _ (List.mem_singleton.2 rfl)
    exact this rfl
  simp only [freeL]
  rw [if_pos (show looseB n (of.set r f) tl (of.getD r 0) = true from decide_eq_true ⟨ho.1, ho.2, hnt, hno⟩)]
  simp only
  rw [if_neg (show ¬ looseB n (of.set r f) (tl ++ [of.getD r 0]) (of.getD r 0) = true from fun h => (of_decide_eq_true h).2.2.1 (by simp))]
  rw [if_neg (show ¬ looseB n (of.set r f) (tl ++ [of.getD r 0]) f = true from fun h => (of_decide_eq_true h).2.2.2 hof)]
  rw [if_neg (show ¬ looseB n (of.set r f) (tl ++ [of.getD r 0]) (-1) = true from fun h => absurd (of_decide_eq_true h).1 (by omega))]
  rw [if_neg (show ¬ looseB n (of.set r f) (tl ++ [of.getD r 0]) n = true from fun h => absurd (of_decide_eq_true h).2.1 (by omega))]
def mHp (e : TypeId) (n : Nat) (ds : List Int) (of fr : List Int) : List Ent := [.row false e [.int .i64] (ds.map irow), .cells 52 [.v (.int .i64 n), .slc 2 1 0 32, .slc 3 1 0 (n - 32)], .row true 3 [.int .i64] (of.map irow), .row true 3 [.int .i64] (fr.map irow), .row true 3 [.int .i64] (fr.map irow)]
set_option maxHeartbeats 4000000 in
theorem frees_run (M : HL) (K : SV → List Ent → HL → Prop) (e : TypeId) (x : Int) (ds : List Int) (hK : ∀ hp, K (.v (.bool true)) hp M) :
    runF G4 pf3 [.v (.int .i64 x), .slc 0 1 0 ds.length] [.row false e [.int .i64] (ds.map irow)] M K := by
  repeat ((conv => whnf); (first | refine Cnd.yes ?_ | refine Cnd.no ?_ | refine And.intro rfl ?_ | refine And.intro (by omega) ?_ | (refine And.intro ?_ ?_; focus (simp only [IntKind.wrap_i64, IntKind.wrap_u64, IntKind.wrap_u32]; omega)) | (refine And.intro ?_ ?_; focus (first | (simp only [tblOf_len, List.length_map, List.length_append, List.length_cons, List.length_nil, List.length_take, List.length_drop, List.length_replicate]; omega) | (simp only [tblOf_len, List.length_map, List.length_append, List.length_cons, List.length_nil, List.length_take, List.length_drop, List.length_replicate]; done)))))
  conv => whnf
  refine ⟨x, 30, rfl, by omega, by omega, ?_⟩
  repeat ((conv => whnf); (first | refine Cnd.yes ?_ | refine Cnd.no ?_ | refine And.intro rfl ?_ | refine And.intro (by omega) ?_ | (refine And.intro ?_ ?_; focus (simp only [IntKind.wrap_i64, IntKind.wrap_u64, IntKind.wrap_u32]; omega)) | (refine And.intro ?_ ?_; focus (first | (simp only [tblOf_len, List.length_map, List.length_append, List.length_cons, List.length_nil, List.length_take, List.length_drop, List.length_replicate]; omega) | (simp only [tblOf_len, List.length_map, List.length_append, List.length_cons, List.length_nil, List.length_take, List.length_drop, List.length_replicate]; done)))))
  conv => whnf
  obtain ⟨n, hn⟩ : ∃ n : Nat, IntKind.i64.wrap (33 + x % 30) = n := ⟨(33 + x % 30).toNat, by rw [IntKind.wrap_i64]; omega⟩
  have hn2 : 33 ≤ n ∧ n ≤ 63 := by rw [IntKind.wrap_i64] at hn; omega
  rw [hn]
  refine Cnd.mk (fun hbig => ?_) fun hsmall => ?_
  · repeat ((conv => whnf); (first | refine Cnd.yes ?_ | refine Cnd.no ?_ | refine And.intro rfl ?_ | refine And.intro (by omega) ?_ | (refine And.intro ?_ ?_; focus (simp only [IntKind.wrap_i64, IntKind.wrap_u64, IntKind.wrap_u32]; omega)) | (refine And.intro ?_ ?_; focus (first | (simp only [tblOf_len, List.length_map, List.length_append, List.length_cons, List.length_nil, List.length_take, List.length_drop, List.length_replicate]; omega) | (simp only [tblOf_len, List.length_map, List.length_append, List.length_cons, List.length_nil, List.length_take, List.length_drop, List.length_replicate]; done)))))
    conv => whnf
    exact hK _
  have hsm : ds.length ≤ 60 := by have := of_decide_eq_false hsmall; omega
  repeat ((conv => whnf); (first | refine Cnd.yes ?_ | refine Cnd.no ?_ | refine And.intro rfl ?_ | refine And.intro (by omega) ?_ | (refine And.intro ?_ ?_; focus (simp only [IntKind.wrap_i64, IntKind.wrap_u64, IntKind.wrap_u32]; omega)) | (refine And.intro ?_ ?_; focus (first | (simp only [tblOf_len, List.length_map, List.length_append, List.length_cons, List.length_nil, List.length_take, List.length_drop, List.length_replicate]; omega) | (simp only [tblOf_len, List.length_map, List.length_append, List.length_cons, List.length_nil, List.length_take, List.length_drop, List.length_replicate]; done)))))
  conv => whnf
  refine .inl ⟨n, rfl, rfl, by omega, by omega, ?_⟩
  repeat ((conv => whnf); (first | refine Cnd.yes ?_ | refine Cnd.no ?_ | refine And.intro rfl ?_ | refine And.intro (by omega) ?_ | (refine And.intro ?_ ?_; focus (simp only [IntKind.wrap_i64, IntKind.wrap_u64, IntKind.wrap_u32]; omega)) | (refine And.intro ?_ ?_; focus (first | (simp only [tblOf_len, List.length_map, List.length_append, List.length_cons, List.length_nil, List.length_take, List.length_drop, List.length_replicate]; omega) | (simp only [tblOf_len, List.length_map, List.length_append, List.length_cons, List.length_nil, List.length_take, List.length_drop, List.length_replicate]; done)))))
  conv => whnf
  refine ⟨fun cnt tm hp M' => ∃ i : Nat, 32 ≤ i ∧ i ≤ n ∧ cnt = n - i ∧ M' = M ∧ tmkK 116 0 [(0, .v (.int .i64 n)), (1, .slc 0 1 0 ds.length), (6, .ptr 1 0 0 0), (8, .slc 4 1 0 (i - 32)), (9, .v (.int .i64 i))] (fun l => tm = l) ∧
      hp = [.row false e [.int .i64] (ds.map irow), .cells 52 [.v (.int .i64 n), .slc 2 1 0 32, .slc 3 1 0 (n - 32)], .row true 3 [.int .i64] ((rng 0 32).map irow), .row true 3 [.int .i64] ((rng 32 (n - 32)).map irow), .row true 3 [.int .i64] ((rng 32 (i - 32)).map irow)],
    ⟨n - 32, [0, 1, 2, 3, 4], tmk 116 0 [(0, .v (.int .i64 n)), (1, .slc 0 1 0 ds.length), (6, .ptr 1 0 0 0), (8, .slc 4 1 0 0), (9, .v (.int .i64 (32 : Nat)))], [.row false e [.int .i64] (ds.map irow), .cells 52 [.v (.int .i64 n), .slc 2 1 0 32, .slc 3 1 0 (n - 32)], .row true 3 [.int .i64] ((rng 0 32).map irow), .row true 3 [.int .i64] ((rng 32 (n - 32)).map irow), .row true 3 [.int .i64] ((rng 32 0).map irow)], ?_⟩, ?_⟩
  · repeat ((conv => whnf); (first | refine Cnd.yes ?_ | refine Cnd.no ?_ | refine And.intro rfl ?_ | refine And.intro (by omega) ?_ | (refine And.intro ?_ ?_; focus (simp only [IntKind.wrap_i64, IntKind.wrap_u64, IntKind.wrap_u32]; omega)) | (refine And.intro ?_ ?_; focus (first | (simp only [tblOf_len, List.length_map, List.length_append, List.length_cons, List.length_nil, List.length_take, List.length_drop, List.length_replicate]; omega) | (simp only [tblOf_len, List.length_map, List.length_append, List.length_cons, List.length_nil, List.length_take, List.length_drop, List.length_replicate]; done)))))
    conv => whnf
    exact ⟨32, by omega, by omega, rfl, rfl, (tmkK_eq _ _ _ _).mpr rfl, rfl⟩
  · rintro cnt tm hp M' ⟨i, hi0, hi, rfl, rfl, htm, rfl⟩
    conv at htm => whnf
    subst htm
    repeat ((conv => whnf); (first | refine Cnd.yes ?_ | refine Cnd.no ?_ | refine And.intro rfl ?_ | refine And.intro (by omega) ?_ | (refine And.intro ?_ ?_; focus (simp only [IntKind.wrap_i64, IntKind.wrap_u64, IntKind.wrap_u32]; omega)) | (refine And.intro ?_ ?_; focus (first | (simp only [tblOf_len, List.length_map, List.length_append, List.length_cons, List.length_nil, List.length_take, List.length_drop, List.length_replicate]; omega) | (simp only [tblOf_len, List.length_map, List.length_append, List.length_cons, List.length_nil, List.length_take, List.length_drop, List.length_replicate]; done)))))
    conv => whnf
    refine Cnd.mk (fun hlt => ?_) fun hge => ?_
    · have hin : i < n := by have := of_decide_eq_true hlt; omega
      have hrl := rng_len 32 (i - 32)
      repeat ((conv => whnf); (first | refine Cnd.yes ?_ | refine Cnd.no ?_ | refine And.intro rfl ?_ | refine And.intro (by omega) ?_ | (refine And.intro ?_ ?_; focus (simp only [IntKind.wrap_i64, IntKind.wrap_u64, IntKind.wrap_u32]; omega)) | (refine And.intro ?_ ?_; focus (first | (simp only [tblOf_len, List.length_map, List.length_append, List.length_cons, List.length_nil, List.length_take, List.length_drop, List.length_replicate]; omega) | (simp only [tblOf_len, List.length_map, List.length_append, List.length_cons, List.length_nil, List.length_take, List.length_drop, List.length_replicate]; done)))))
      conv => whnf
      refine ⟨n - (i + 1), [0, 1, 2, 3, 6], tmk 116 0 [(0, .v (.int .i64 n)), (1, .slc 0 1 0 ds.length), (6, .ptr 1 0 0 0), (8, .slc 4 1 0 (i - 32 + 1)), (9, .v (.int .i64 (i + 1 : Nat)))], [.row false e [.int .i64] (ds.map irow), .cells 52 [.v (.int .i64 n), .slc 2 1 0 32, .slc 3 1 0 (n - 32)], .row true 3 [.int .i64] ((rng 0 32).map irow), .row true 3 [.int .i64] ((rng 32 (n - 32)).map irow), .row true 3 [.int .i64] ((rng 32 (i - 32 + 1)).map irow)], by omega, ?_⟩
      repeat ((conv => whnf); (first | refine Cnd.yes ?_ | refine Cnd.no ?_ | refine And.intro rfl ?_ | refine And.intro (by omega) ?_ | (refine And.intro ?_ ?_; focus (simp only [IntKind.wrap_i64, IntKind.wrap_u64, IntKind.wrap_u32]; omega)) | (refine And.intro ?_ ?_; focus (first | (simp only [tblOf_len, List.length_map, List.length_append, List.length_cons, List.length_nil, List.length_take, List.length_drop, List.length_replicate]; omega) | (simp only [tblOf_len, List.length_map, List.length_append, List.length_cons, List.length_nil, List.length_take, List.length_drop, List.length_replicate]; done)))))
      conv => whnf
      refine ⟨by rw [happ2 _ _ _ hrl, rng_succ, show ((32 + (i - 32) : Nat) : Int) = i by omega], ?_⟩
      repeat ((conv => whnf); (first | refine Cnd.yes ?_ | refine Cnd.no ?_ | refine And.intro rfl ?_ | refine And.intro (by omega) ?_ | (refine And.intro ?_ ?_; focus (simp only [IntKind.wrap_i64, IntKind.wrap_u64, IntKind.wrap_u32]; omega)) | (refine And.intro ?_ ?_; focus (first | (simp only [tblOf_len, List.length_map, List.length_append, List.length_cons, List.length_nil, List.length_take, List.length_drop, List.length_replicate]; omega) | (simp only [tblOf_len, List.length_map, List.length_append, List.length_cons, List.length_nil, List.length_take, List.length_drop, List.length_replicate]; done)))))
      conv => whnf
      exact ⟨i + 1, by omega, by omega, rfl, rfl, (tmkK_eq _ _ _ _).mpr (by rw [show i + 1 - 32 = i - 32 + 1 by omega]), by rw [show i + 1 - 32 = i - 32 + 1 by omega]⟩
    · have hin : i = n := by have := of_decide_eq_false hge; omega
      subst hin
      repeat ((conv => whnf); (first | refine Cnd.yes ?_ | refine Cnd.no ?_ | refine And.intro rfl ?_ | refine And.intro (by omega) ?_ | (refine And.intro ?_ ?_; focus (simp only [IntKind.wrap_i64, IntKind.wrap_u64, IntKind.wrap_u32]; omega)) | (refine And.intro ?_ ?_; focus (first | (simp only [tblOf_len, List.length_map, List.length_append, List.length_cons, List.length_nil, List.length_take, List.length_drop, List.length_replicate]; omega) | (simp only [tblOf_len, List.length_map, List.length_append, List.length_cons, List.length_nil, List.length_take, List.length_drop, List.length_replicate]; done)))))
      conv => whnf
      refine ⟨fun cnt tm hp M1 => ∃ (j : Nat) (of fr : List Int), j ≤ ds.length ∧ Nice i of fr ∧ cnt = ds.length - j ∧ M1 = M' ∧ tmkK 116 0 [(0, .v (.int .i64 i)), (1, .slc 0 1 0 ds.length), (6, .ptr 1 0 0 0), (8, .slc 4 1 0 (i - 32)), (10, .v (.int .i64 j))] (fun l => tm = l) ∧ hp = mHp e i ds of fr,
        ⟨ds.length, [0, 1, 2, 3, 4], tmk 116 0 [(0, .v (.int .i64 i)), (1, .slc 0 1 0 ds.length), (6, .ptr 1 0 0 0), (8, .slc 4 1 0 (i - 32)), (10, .v (.int .i64 (0 : Nat)))], mHp e i ds (rng 0 32) (rng 32 (i - 32)), ?_⟩, ?_⟩
      · repeat ((conv => whnf); (first | refine Cnd.yes ?_ | refine Cnd.no ?_ | refine And.intro rfl ?_ | refine And.intro (by omega) ?_ | (refine And.intro ?_ ?_; focus (simp only [IntKind.wrap_i64, IntKind.wrap_u64, IntKind.wrap_u32]; omega)) | (refine And.intro ?_ ?_; focus (first | (simp only [tblOf_len, List.length_map, List.length_append, List.length_cons, List.length_nil, List.length_take, List.length_drop, List.length_replicate]; omega) | (simp only [tblOf_len, List.length_map, List.length_append, List.length_cons, List.length_nil, List.length_take, List.length_drop, List.length_replicate]; done)))))
        conv => whnf
        exact ⟨0, _, _, by omega, nice_start (by omega), by omega, rfl, (tmkK_eq _ _ _ _).mpr rfl, rfl⟩
      · rintro cnt tm hp M1 ⟨j, of, fr, hj, hnice, rfl, rfl, htm, rfl⟩
        conv at htm => whnf
        subst htm
        have hl1 := hnice.l1
        have hl2 := hnice.l2
        repeat ((conv => whnf); (first | refine Cnd.yes ?_ | refine Cnd.no ?_ | refine And.intro rfl ?_ | refine And.intro (by omega) ?_ | (refine And.intro ?_ ?_; focus (simp only [IntKind.wrap_i64, IntKind.wrap_u64, IntKind.wrap_u32]; omega)) | (refine And.intro ?_ ?_; focus (first | (simp only [tblOf_len, List.length_map, List.length_append, List.length_cons, List.length_nil, List.length_take, List.length_drop, List.length_replicate]; omega) | (simp only [tblOf_len, List.length_map, List.length_append, List.length_cons, List.length_nil, List.length_take, List.length_drop, List.length_replicate]; done)))))
        conv => whnf
        refine Cnd.mk (fun hlt => ?_) fun hge => ?_
        · have hjn : j < ds.length := by have := of_decide_eq_true hlt; omega
          repeat ((conv => whnf); (first | refine Cnd.yes ?_ | refine Cnd.no ?_ | refine And.intro rfl ?_ | refine And.intro (by omega) ?_ | (refine And.intro ?_ ?_; focus (simp only [IntKind.wrap_i64, IntKind.wrap_u64, IntKind.wrap_u32]; omega)) | (refine And.intro ?_ ?_; focus (first | (simp only [tblOf_len, List.length_map, List.length_append, List.length_cons, List.length_nil, List.length_take, List.length_drop, List.length_replicate]; omega) | (simp only [tblOf_len, List.length_map, List.length_append, List.length_cons, List.length_nil, List.length_take, List.length_drop, List.length_replicate]; done)))))
          conv => whnf
          rw [toI_i hjn]
          refine ⟨_, 31, rfl, by omega, by omega, ?_⟩
          repeat ((conv => whnf); (first | refine Cnd.yes ?_ | refine Cnd.no ?_ | refine And.intro rfl ?_ | refine And.intro (by omega) ?_ | (refine And.intro ?_ ?_; focus (simp only [IntKind.wrap_i64, IntKind.wrap_u64, IntKind.wrap_u32]; omega)) | (refine And.intro ?_ ?_; focus (first | (simp only [tblOf_len, List.length_map, List.length_append, List.length_cons, List.length_nil, List.length_take, List.length_drop, List.length_replicate]; omega) | (simp only [tblOf_len, List.length_map, List.length_append, List.length_cons, List.length_nil, List.length_take, List.length_drop, List.length_replicate]; done)))))
          conv => whnf
          obtain ⟨r, hr⟩ : ∃ r : Nat, IntKind.i64.wrap (ds.getD j 0 % 31 + 1) = r := ⟨(ds.getD j 0 % 31 + 1).toNat, by rw [IntKind.wrap_i64]; omega⟩
          have hr2 : 1 ≤ r ∧ r < 32 := by rw [IntKind.wrap_i64] at hr; omega
          rw [hr]
          obtain ⟨f, tl, rfl⟩ : ∃ f tl, fr = f :: tl := by
            cases fr with
            | nil => simp at hl2; omega
            | cons f tl => exact ⟨f, tl, rfl⟩
          have hfree := nice_free hnice hr2
          have hnext := nice_step hnice hr2
          have htl : tl.length = i - 33 := by simp at hl2; omega
          generalize ho : of.getD r 0 = o at hfree hnext
          refine .inr ⟨i, of, tl, f, r, rfl, by rw [renHp, hl1, hl2]; rfl, hr2, hl1, by omega, ?_⟩
          rw [ho, htl]
          have hgf : toI (cellAt ((of.set r f).map irow) (0 + (r : Int).toNat) 0) = f := by
            rw [toI_i (by simp; omega)]
            simp only [List.getD]
            rw [List.getElem?_set_self (by omega)]
            rfl
          repeat ((conv => whnf); (first | refine Cnd.yes ?_ | refine Cnd.no ?_ | refine And.intro rfl ?_ | refine And.intro (by omega) ?_ | (refine And.intro ?_ ?_; focus (simp only [IntKind.wrap_i64, IntKind.wrap_u64, IntKind.wrap_u32]; omega)) | (refine And.intro ?_ ?_; focus (first | (simp only [tblOf_len, List.length_map, List.length_append, List.length_cons, List.length_nil, List.length_take, List.length_drop, List.length_replicate]; omega) | (simp only [tblOf_len, List.length_map, List.length_append, List.length_cons, List.length_nil, List.length_take, List.length_drop, List.length_replicate]; done)))))
          conv => whnf
          refine Cnd.ff (by show (f != f) = false; simp) ?_
          repeat ((conv => whnf); (first | refine Cnd.yes ?_ | refine Cnd.no ?_ | refine And.intro rfl ?_ | refine And.intro (by omega) ?_ | (refine And.intro ?_ ?_; focus (simp only [IntKind.wrap_i64, IntKind.wrap_u64, IntKind.wrap_u32]; omega)) | (refine And.intro ?_ ?_; focus (first | (simp only [tblOf_len, List.length_map, List.length_append, List.length_cons, List.length_nil, List.length_take, List.length_drop, List.length_replicate]; omega) | (simp only [tblOf_len, List.length_map, List.length_append, List.length_cons, List.length_nil, List.length_take, List.length_drop, List.length_replicate]; done)))))
          conv => whnf
          refine Cnd.ff (decide_eq_false (by omega)) ?_
          repeat ((conv => whnf); (first | refine Cnd.yes ?_ | refine Cnd.no ?_ | refine And.intro rfl ?_ | refine And.intro (by omega) ?_ | (refine And.intro ?_ ?_; focus (simp only [IntKind.wrap_i64, IntKind.wrap_u64, IntKind.wrap_u32]; omega)) | (refine And.intro ?_ ?_; focus (first | (simp only [tblOf_len, List.length_map, List.length_append, List.length_cons, List.length_nil, List.length_take, List.length_drop, List.length_replicate]; omega) | (simp only [tblOf_len, List.length_map, List.length_append, List.length_cons, List.length_nil, List.length_take, List.length_drop, List.length_replicate]; done)))))
          conv => whnf
          refine ⟨by simp; omega, ?_⟩
          repeat ((conv => whnf); (first | refine Cnd.yes ?_ | refine Cnd.no ?_ | refine And.intro rfl ?_ | refine And.intro (by omega) ?_ | (refine And.intro ?_ ?_; focus (simp only [IntKind.wrap_i64, IntKind.wrap_u64, IntKind.wrap_u32]; omega)) | (refine And.intro ?_ ?_; focus (first | (simp only [tblOf_len, List.length_map, List.length_append, List.length_cons, List.length_nil, List.length_take, List.length_drop, List.length_replicate]; omega) | (simp only [tblOf_len, List.length_map, List.length_append, List.length_cons, List.length_nil, List.length_take, List.length_drop, List.length_replicate]; done)))))
          conv => whnf
          rw [hgf]
          refine Cnd.ff (by simp) ?_
          repeat ((conv => whnf); (first | refine Cnd.yes ?_ | refine Cnd.no ?_ | refine And.intro rfl ?_ | refine And.intro (by omega) ?_ | (refine And.intro ?_ ?_; focus (simp only [IntKind.wrap_i64, IntKind.wrap_u64, IntKind.wrap_u32]; omega)) | (refine And.intro ?_ ?_; focus (first | (simp only [tblOf_len, List.length_map, List.length_append, List.length_cons, List.length_nil, List.length_take, List.length_drop, List.length_replicate]; omega) | (simp only [tblOf_len, List.length_map, List.length_append, List.length_cons, List.length_nil, List.length_take, List.length_drop, List.length_replicate]; done)))))
          conv => whnf
          have hlo : (tl ++ [o]).length = i - 32 := by simp; omega
          refine ⟨i, of.set r f, tl, 3, true, [o, o, f, -1, (i : Int)], rfl, by rw [fA, htl, List.length_set, hl1]; rfl, by simp; omega, by omega, by simp, ?_⟩
          rw [hfree, if_neg (by simp), fB, List.length_set, hl1, hlo]
          have e32 : ((i - 32 : Nat) : Int).toNat - Int.toNat 1 + 1 = i - 32 := by omega
          have hrow : List.take (((i - 32 : Nat) : Int).toNat - Int.toNat 1) (List.drop (0 + Int.toNat 1) (List.map irow (f :: tl))) ++ List.take 1 (List.drop 0 [[Value.int IntKind.i64 o]]) = (tl ++ [o]).map irow := by
            show List.take _ (tl.map irow) ++ _ = _
            rw [List.take_of_length_le (by simp; omega)]
            simp [irow]
          repeat ((conv => whnf); (first | refine Cnd.yes ?_ | refine Cnd.no ?_ | refine And.intro rfl ?_ | refine And.intro (by omega) ?_ | (refine And.intro ?_ ?_; focus (simp only [IntKind.wrap_i64, IntKind.wrap_u64, IntKind.wrap_u32]; omega)) | (refine And.intro ?_ ?_; focus (first | (simp only [tblOf_len, List.length_map, List.length_append, List.length_cons, List.length_nil, List.length_take, List.length_drop, List.length_replicate]; omega) | (simp only [tblOf_len, List.length_map, List.length_append, List.length_cons, List.length_nil, List.length_take, List.length_drop, List.length_replicate]; done)))))
          conv => whnf
          rw [e32, hrow]
          refine Cnd.ff (by simp) ?_
          repeat ((conv => whnf); (first | refine Cnd.yes ?_ | refine Cnd.no ?_ | refine And.intro rfl ?_ | refine And.intro (by omega) ?_ | (refine And.intro ?_ ?_; focus (simp only [IntKind.wrap_i64, IntKind.wrap_u64, IntKind.wrap_u32]; omega)) | (refine And.intro ?_ ?_; focus (first | (simp only [tblOf_len, List.length_map, List.length_append, List.length_cons, List.length_nil, List.length_take, List.length_drop, List.length_replicate]; omega) | (simp only [tblOf_len, List.length_map, List.length_append, List.length_cons, List.length_nil, List.length_take, List.length_drop, List.length_replicate]; done)))))
          conv => whnf
          refine ⟨i, of.set r f, tl ++ [o], rfl, by rw [renHp, List.length_set, hl1, hlo]; rfl, by simp [hl1], ?_⟩
          rw [renHp, List.length_set, hl1, hlo]
          repeat ((conv => whnf); (first | refine Cnd.yes ?_ | refine Cnd.no ?_ | refine And.intro rfl ?_ | refine And.intro (by omega) ?_ | (refine And.intro ?_ ?_; focus (simp only [IntKind.wrap_i64, IntKind.wrap_u64, IntKind.wrap_u32]; omega)) | (refine And.intro ?_ ?_; focus (first | (simp only [tblOf_len, List.length_map, List.length_append, List.length_cons, List.length_nil, List.length_take, List.length_drop, List.length_replicate]; omega) | (simp only [tblOf_len, List.length_map, List.length_append, List.length_cons, List.length_nil, List.length_take, List.length_drop, List.length_replicate]; done)))))
          conv => whnf
          refine ⟨3, true, of.set r f, by rw [List.length_set, hl1], rfl, by simp [hl1], ?_⟩
          rw [List.length_set, hl1]
          repeat ((conv => whnf); (first | refine Cnd.yes ?_ | refine Cnd.no ?_ | refine And.intro rfl ?_ | refine And.intro (by omega) ?_ | (refine And.intro ?_ ?_; focus (simp only [IntKind.wrap_i64, IntKind.wrap_u64, IntKind.wrap_u32]; omega)) | (refine And.intro ?_ ?_; focus (first | (simp only [tblOf_len, List.length_map, List.length_append, List.length_cons, List.length_nil, List.length_take, List.length_drop, List.length_replicate]; omega) | (simp only [tblOf_len, List.length_map, List.length_append, List.length_cons, List.length_nil, List.length_take, List.length_drop, List.length_replicate]; done)))))
          conv => whnf
          have hcat : List.take 32 (List.drop 0 (List.map irow (of.set r f))) ++ List.take (i - 32) (List.drop 0 (List.map irow (tl ++ [o]))) = (of.set r f ++ (tl ++ [o])).map irow := by
            rw [List.drop_zero, List.drop_zero, List.take_of_length_le (by simp; omega), List.take_of_length_le (by rw [List.length_map, hlo]; omega), List.map_append (l₁ := of.set r f)]
          have hcl : (of.set r f ++ (tl ++ [o])).length = i := by rw [List.length_append, List.length_set, hl1, hlo]; omega
          have hsl := sortL_nodup hnext.nd
          refine ⟨by rw [List.length_map, List.length_set, hl1]; omega, ?_⟩
          repeat ((conv => whnf); (first | refine Cnd.yes ?_ | refine Cnd.no ?_ | refine And.intro rfl ?_ | refine And.intro (by omega) ?_ | (refine And.intro ?_ ?_; focus (simp only [IntKind.wrap_i64, IntKind.wrap_u64, IntKind.wrap_u32]; omega)) | (refine And.intro ?_ ?_; focus (first | (simp only [tblOf_len, List.length_map, List.length_append, List.length_cons, List.length_nil, List.length_take, List.length_drop, List.length_replicate]; omega) | (simp only [tblOf_len, List.length_map, List.length_append, List.length_cons, List.length_nil, List.length_take, List.length_drop, List.length_replicate]; done)))))
          conv => whnf
          rw [hcat]
          refine ⟨3, true, of.set r f ++ (tl ++ [o]), by rw [hcl, show 32 + (i - 32) = i by omega], rfl, by omega, ?_⟩
          rw [sHp, hsl, hcl]
          repeat ((conv => whnf); (first | refine Cnd.yes ?_ | refine Cnd.no ?_ | refine And.intro rfl ?_ | refine And.intro (by omega) ?_ | (refine And.intro ?_ ?_; focus (simp only [IntKind.wrap_i64, IntKind.wrap_u64, IntKind.wrap_u32]; omega)) | (refine And.intro ?_ ?_; focus (first | (simp only [tblOf_len, List.length_map, List.length_append, List.length_cons, List.length_nil, List.length_take, List.length_drop, List.length_replicate]; omega) | (simp only [tblOf_len, List.length_map, List.length_append, List.length_cons, List.length_nil, List.length_take, List.length_drop, List.length_replicate]; done)))))
          conv => whnf
          refine Cnd.ff (by simp) ?_
          repeat ((conv => whnf); (first | refine Cnd.yes ?_ | refine Cnd.no ?_ | refine And.intro rfl ?_ | refine And.intro (by omega) ?_ | (refine And.intro ?_ ?_; focus (simp only [IntKind.wrap_i64, IntKind.wrap_u64, IntKind.wrap_u32]; omega)) | (refine And.intro ?_ ?_; focus (first | (simp only [tblOf_len, List.length_map, List.length_append, List.length_cons, List.length_nil, List.length_take, List.length_drop, List.length_replicate]; omega) | (simp only [tblOf_len, List.length_map, List.length_append, List.length_cons, List.length_nil, List.length_take, List.length_drop, List.length_replicate]; done)))))
          conv => whnf
          refine ⟨ds.length - (j + 1), [0, 1, 2, 9, 7], tmk 116 0 [(0, .v (.int .i64 i)), (1, .slc 0 1 0 ds.length), (6, .ptr 1 0 0 0), (8, .slc 4 1 0 (i - 32)), (10, .v (.int .i64 (j + 1 : Nat)))], mHp e i ds (of.set r f) (tl ++ [o]), by omega, ?_⟩
          repeat ((conv => whnf); (first | refine Cnd.yes ?_ | refine Cnd.no ?_ | refine And.intro rfl ?_ | refine And.intro (by omega) ?_ | (refine And.intro ?_ ?_; focus (simp only [IntKind.wrap_i64, IntKind.wrap_u64, IntKind.wrap_u32]; omega)) | (refine And.intro ?_ ?_; focus (first | (simp only [tblOf_len, List.length_map, List.length_append, List.length_cons, List.length_nil, List.length_take, List.length_drop, List.length_replicate]; omega) | (simp only [tblOf_len, List.length_map, List.length_append, List.length_cons, List.length_nil, List.length_take, List.length_drop, List.length_replicate]; done)))))
          conv => whnf
          exact ⟨j + 1, _, _, by omega, hnext, rfl, rfl, (tmkK_eq _ _ _ _).mpr rfl, rfl⟩
        · have hjn : j = ds.length := by have := of_decide_eq_false hge; omega
          subst hjn
          repeat ((conv => whnf); (first | refine Cnd.yes ?_ | refine Cnd.no ?_ | refine And.intro rfl ?_ | refine And.intro (by omega) ?_ | (refine And.intro ?_ ?_; focus (simp only [IntKind.wrap_i64, IntKind.wrap_u64, IntKind.wrap_u32]; omega)) | (refine And.intro ?_ ?_; focus (first | (simp only [tblOf_len, List.length_map, List.length_append, List.length_cons, List.length_nil, List.length_take, List.length_drop, List.length_replicate]; omega) | (simp only [tblOf_len, List.length_map, List.length_append, List.length_cons, List.length_nil, List.length_take, List.length_drop, List.length_replicate]; done)))))
          conv => whnf
          have hz : toI (cellAt (of.map irow) (0 + Int.toNat 0) 0) = 0 := (toI_i (i := 0) (by omega)).trans hnice.z
          rw [hz]
          exact hK _
end Go.Proofs.YtlbjheknhoigpaaDoor
