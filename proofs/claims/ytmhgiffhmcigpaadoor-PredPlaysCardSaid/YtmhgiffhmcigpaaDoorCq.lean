/-
  The document's predictor: Words, Learn, Seen, Call, Back, walked; their contracts.
-/
import Derived.Test.YtmhgiffhmcigpaaDoorCp
namespace Go.Proofs.YtmhgiffhmcigpaaDoor
open Go Go.Vc
set_option maxRecDepth 100000
set_option linter.unusedSimpArgs false
set_option linter.unusedVariables false
theorem words_run (M : HL) (K : SV → List Ent → HL → Prop) (o : Bool) (e : TypeId) (pre l post : List Nat) (hl : l.length ≤ 1000) (hK : K (.slc 1 1 0 l.length) [.row o e [.int .u32] ((pre ++ l ++ post).map wrow), .row true 22 [.int .u32] (l.map wrow)] M) :
    runF G0 pf36 [.slc 0 1 pre.length l.length] [.row o e [.int .u32] ((pre ++ l ++ post).map wrow)] M fun v hp2 M2 => ∃ m v' hp', Wk (llen [Ent.row o e [.int .u32] ((pre ++ l ++ post).map wrow)]) m [v] hp2 [v'] hp' (K v' hp' M2) := by
  repeat ((conv => whnf); (first | refine Cnd.yes ?_ | refine Cnd.no ?_ | refine And.intro rfl ?_ | refine And.intro (by omega) ?_ | (refine And.intro ?_ ?_; focus (simp only [IntKind.wrap_i64, IntKind.wrap_u64, IntKind.wrap_u32]; omega)) | (refine And.intro ?_ ?_; focus (simp only [zl1, zl2, zl3, zl4, zl5, zl6, zl7, zl8] <;> omega)) | (refine Cnd.tt ?_ ?_; focus (first | (apply decide_eq_true; omega) | (simp only [zq1, zq2, zq3, zq4, zq5, zq6, zq7, zq8, zq9, zq10, zq11, zq12] <;> omega) | rfl)) | (refine Cnd.ff ?_ ?_; focus (first | (apply decide_eq_false; omega) | (simp only [zq1, zq2, zq3, zq4, zq5, zq6, zq7, zq8, zq9, zq10, zq11, zq12] <;> omega) | rfl))))
  conv => whnf
  refine ⟨InvS 22 (fun s : Nat => l.length - s) (fun s : Nat => s ≤ l.length) (fun s : Nat => [(0, .slc 0 1 pre.length l.length), (3, .slc 1 1 0 s), (4, .v (.int .i64 s))]) (fun s : Nat => [Ent.row o e [.int .u32] ((pre ++ l ++ post).map wrow), .row true 22 [.int .u32] ((l.take s).map wrow)]) M, ⟨(fun s : Nat => l.length - s) 0, [0, 1], tmk 22 0 ((fun s : Nat => [(0, .slc 0 1 pre.length l.length), (3, .slc 1 1 0 s), (4, .v (.int .i64 s))]) 0), (fun s : Nat => [Ent.row o e [.int .u32] ((pre ++ l ++ post).map wrow), .row true 22 [.int .u32] ((l.take s).map wrow)]) 0, ?_⟩, ?_⟩
  · repeat ((conv => whnf); (first | refine Cnd.yes ?_ | refine Cnd.no ?_ | refine And.intro rfl ?_ | refine And.intro (by omega) ?_ | (refine And.intro ?_ ?_; focus (simp only [IntKind.wrap_i64, IntKind.wrap_u64, IntKind.wrap_u32]; omega)) | (refine And.intro ?_ ?_; focus (simp only [zl1, zl2, zl3, zl4, zl5, zl6, zl7, zl8] <;> omega))))
    conv => whnf
    exact ⟨0, by omega, rfl, rfl, (tmkK_eq _ _ _ _).mpr rfl, rfl⟩
  · rintro cnt tm hp M1 ⟨i, hC_, rfl, rfl, htm, hhp_⟩
    replace hC_ : i ≤ l.length := hC_
    have hi := hC_
    replace htm : tmkK 22 0 [(0, .slc 0 1 pre.length l.length), (3, .slc 1 1 0 i), (4, .v (.int .i64 i))] (fun l => tm = l) := htm
    conv at htm => whnf
    subst htm
    replace hhp_ : hp = [Ent.row o e [.int .u32] ((pre ++ l ++ post).map wrow), .row true 22 [.int .u32] ((l.take i).map wrow)] := hhp_
    subst hhp_
    repeat ((conv => whnf); (first | refine Cnd.yes ?_ | refine Cnd.no ?_ | refine And.intro rfl ?_ | refine And.intro (by omega) ?_ | (refine And.intro ?_ ?_; focus (simp only [IntKind.wrap_i64, IntKind.wrap_u64, IntKind.wrap_u32]; omega)) | (refine And.intro ?_ ?_; focus (simp only [zl1, zl2, zl3, zl4, zl5, zl6, zl7, zl8] <;> omega)) | (refine Cnd.tt ?_ ?_; focus (first | (apply decide_eq_true; omega) | (simp only [zq1, zq2, zq3, zq4, zq5, zq6, zq7, zq8, zq9, zq10, zq11, zq12] <;> omega) | rfl)) | (refine Cnd.ff ?_ ?_; focus (first | (apply decide_eq_false; omega) | (simp only [zq1, zq2, zq3, zq4, zq5, zq6, zq7, zq8, zq9, zq10, zq11, zq12] <;> omega) | rfl))))
    conv => whnf
    refine Cnd.mk (fun hlt => ?_) fun hge => ?_
    · have hin : i < l.length := by have := of_decide_eq_true hlt; omega
      have e0 : toI (cellAt ((pre ++ l ++ post).map wrow) (pre.length + (i : Int).toNat) 0) = ((l.getD i 0 : Nat) : Int) := by
        rw [Int.toNat_natCast, cellAt]
        have : (pre ++ l ++ post)[pre.length + i]? = some l[i] := by
          rw [List.append_assoc, List.getElem?_append_right (by omega), Nat.add_sub_cancel_left, List.getElem?_append_left hin]; simp [hin]
        have t2 : ((pre ++ l ++ post).map wrow)[pre.length + i]? = some (wrow l[i]) := by rw [List.getElem?_map, this]; rfl
        simp only [List.getD, t2, List.getElem?_eq_getElem hin]
        rfl
      repeat ((conv => whnf); (first | refine Cnd.yes ?_ | refine Cnd.no ?_ | refine And.intro rfl ?_ | refine And.intro (by omega) ?_ | (refine And.intro ?_ ?_; focus (simp only [IntKind.wrap_i64, IntKind.wrap_u64, IntKind.wrap_u32]; omega)) | (refine And.intro ?_ ?_; focus (simp only [zl1, zl2, zl3, zl4, zl5, zl6, zl7, zl8] <;> omega)) | (refine Cnd.tt ?_ ?_; focus (first | (apply decide_eq_true; omega) | (simp only [zq1, zq2, zq3, zq4, zq5, zq6, zq7, zq8, zq9, zq10, zq11, zq12] <;> omega) | rfl)) | (refine Cnd.ff ?_ ?_; focus (first | (apply decide_eq_false; omega) | (simp only [zq1, zq2, zq3, zq4, zq5, zq6, zq7, zq8, zq9, zq10, zq11, zq12] <;> omega) | rfl))))
      conv => whnf
      rw [e0]
      (refine ⟨(fun s : Nat => l.length - s) (i + 1), [0, 3], tmk 22 0 ((fun s : Nat => [(0, .slc 0 1 pre.length l.length), (3, .slc 1 1 0 s), (4, .v (.int .i64 s))]) (i + 1)), (fun s : Nat => [Ent.row o e [.int .u32] ((pre ++ l ++ post).map wrow), .row true 22 [.int .u32] ((l.take s).map wrow)]) (i + 1), ?_, ?_⟩; focus (first | (simp only []; omega) | omega))
      repeat ((conv => whnf); (first | refine Cnd.yes ?_ | refine Cnd.no ?_ | refine And.intro rfl ?_ | refine And.intro (by omega) ?_ | (refine And.intro ?_ ?_; focus (simp only [IntKind.wrap_i64, IntKind.wrap_u64, IntKind.wrap_u32]; omega)) | (refine And.intro ?_ ?_; focus (simp only [zl1, zl2, zl3, zl4, zl5, zl6, zl7, zl8] <;> omega))))
      conv => whnf
      refine ⟨?_, ?_⟩
      · have e5 : l.take (i + 1) = l.take i ++ [l.getD i 0] := by rw [List.take_succ_eq_append_getElem hin]; simp [List.getD, hin]
        rw [e5, List.drop_zero, List.drop_zero, List.take_of_length_le (by simp; omega), List.map_append (l₁ := l.take i)]
        rfl
      · repeat ((conv => whnf); (first | refine Cnd.yes ?_ | refine Cnd.no ?_ | refine And.intro rfl ?_ | refine And.intro (by omega) ?_ | (refine And.intro ?_ ?_; focus (simp only [IntKind.wrap_i64, IntKind.wrap_u64, IntKind.wrap_u32]; omega)) | (refine And.intro ?_ ?_; focus (simp only [zl1, zl2, zl3, zl4, zl5, zl6, zl7, zl8] <;> omega))))
        conv => whnf
        exact ⟨i + 1, by omega, rfl, rfl, (tmkK_eq _ _ _ _).mpr rfl, rfl⟩
    · have hin : i = l.length := by have := of_decide_eq_false hge; omega
      subst hin
      repeat ((conv => whnf); (first | refine Cnd.yes ?_ | refine Cnd.no ?_ | refine And.intro rfl ?_ | refine And.intro (by omega) ?_ | (refine And.intro ?_ ?_; focus (simp only [IntKind.wrap_i64, IntKind.wrap_u64, IntKind.wrap_u32]; omega)) | (refine And.intro ?_ ?_; focus (simp only [zl1, zl2, zl3, zl4, zl5, zl6, zl7, zl8] <;> omega)) | (refine Cnd.tt ?_ ?_; focus (first | (apply decide_eq_true; omega) | (simp only [zq1, zq2, zq3, zq4, zq5, zq6, zq7, zq8, zq9, zq10, zq11, zq12] <;> omega) | rfl)) | (refine Cnd.ff ?_ ?_; focus (first | (apply decide_eq_false; omega) | (simp only [zq1, zq2, zq3, zq4, zq5, zq6, zq7, zq8, zq9, zq10, zq11, zq12] <;> omega) | rfl))))
      conv => whnf
      rw [List.take_of_length_le (Nat.le_refl _)]
      refine ⟨[0, 1], .slc 1 1 0 l.length, [.row o e [.int .u32] ((pre ++ l ++ post).map wrow), .row true 22 [.int .u32] (l.map wrow)], ?_⟩
      repeat ((conv => whnf); (first | refine Cnd.yes ?_ | refine Cnd.no ?_ | refine And.intro rfl ?_ | refine And.intro (by omega) ?_ | (refine And.intro ?_ ?_; focus (simp only [IntKind.wrap_i64, IntKind.wrap_u64, IntKind.wrap_u32]; omega)) | (refine And.intro ?_ ?_; focus (simp only [zl1, zl2, zl3, zl4, zl5, zl6, zl7, zl8] <;> omega))))
      conv => whnf
      exact hK
def wordsS : Vc.Spec := fun args hp _ K => ∃ (o : Bool) (e : TypeId) (pre l post : List Nat), args = [.slc 0 1 pre.length l.length] ∧ hp = [.row o e [.int .u32] ((pre ++ l ++ post).map wrow)] ∧ l.length ≤ 1000 ∧ K (.slc 1 1 0 l.length) [.row o e [.int .u32] ((pre ++ l ++ post).map wrow), .row true 22 [.int .u32] (l.map wrow)]
theorem words_ok : SOK Tryd.prog 36 wordsS := by
  refine TOK.weaken (TOK.out (runF_eq G0_ok mixed at36.1 at36.2 pf36_eq)) fun args hp M K h => ?_
  obtain ⟨o, e, pre, l, post, rfl, rfl, h1, h2⟩ := h
  exact words_run M K o e pre l post h1 h2
noncomputable def specsX3 : Nat → Option Vc.Trans := tget [(34, frameT xbitsS), (33, frameT xcntS), (35, frameT xplaceS), (24, frameT xtargetS), (25, frameT xtakenS), (36, frameT wordsS)]
noncomputable def GX3 : Nat → Option Vc.Trans := tabG specsX3 (tget tab) 5
theorem GX3_ok : GOK Tryd.prog GX3 := tabG_ok (GOK.cons (frame_ok xbits_ok) (GOK.cons (frame_ok xcnt_ok) (GOK.cons (frame_ok xplace_ok) (GOK.cons (frame_ok xtarget_ok) (GOK.cons (frame_ok xtaken_ok) (GOK.cons (frame_ok words_ok) .nil)))))) tab_ok 5
theorem crow_set (c d : Nat → Int) {i n : Nat} (hi : i < n) (x : Int) (hx : d i = x) (ho : ∀ j, j ≠ i → d j = c j) : (cRows c n).set (0 + (i : Int).toNat) (over ((cRows c n).getD (0 + (i : Int).toNat) []) 0 [.int .i64 x]) = cRows d n := by
  rw [Nat.zero_add, Int.toNat_natCast, cRows, tblOf_get _ hi, tblOf_set _ hi]
  refine tblOf_congr fun j _ => ?_
  by_cases h : j = i
  · subst h; rw [if_pos rfl, hx]; rfl
  · rw [if_neg h, ho j h]
theorem xlearn_run (M : HL) (K : SV → List Ent → HL → Prop) (s : XS) (hs : s.OK) (pc : Nat) (tk : Bool) (h3 : pc < 4294967296) (hK : K (.tup []) (xHp true { s with h := learnH s.b s.h tk, c := learnC s.b s.h pc tk s.c }) M) :
    runF GX3 pf20 [.ptr 0 0 0 0, .v (.int .u32 pc), .v (.bool tk)] (xHp true s) M K := by
  have h1 := hs.b1
  have h2 := hs.b2
  have hh := hs.h
  have hp : 2 ^ s.b ≤ 2 ^ 10 := Nat.pow_le_pow_right (by omega) hs.b2
  have hcc := hs.c (atI s.b pc s.h)
  have ha : atI s.b pc s.h < 2 ^ s.b := Nat.mod_lt _ (Nat.pow_pos (by omega))
  have e0 : toI (cellAt (cRows s.c (2 ^ s.b)) (0 + ((atI s.b pc s.h : Nat) : Int).toNat) 0) = s.c (atI s.b pc s.h) := by
    rw [Nat.zero_add, Int.toNat_natCast, cRows, tblOf_cell _ ha]; rfl
  have hl : ∀ t : Nat, t ≤ 1 → (2 * s.h + t) % 2 ^ s.b = 2 * (s.h % 2 ^ (s.b - 1)) + t := fun t ht => by
    obtain ⟨k, hk⟩ : ∃ k, s.b = k + 1 := ⟨s.b - 1, by omega⟩
    rw [hk, Nat.add_sub_cancel, Nat.pow_succ']
    have := Nat.mod_add_div s.h (2 ^ k)
    have h5 := Nat.mod_lt s.h (show 0 < 2 ^ k from Nat.pow_pos (by omega))
    have : 2 * s.h + t = (2 * (s.h % 2 ^ k) + t) + (2 * 2 ^ k) * (s.h / 2 ^ k) := by
      rw [Nat.mul_assoc, ← Nat.add_right_comm, ← Nat.mul_add, this]
    rw [this, Nat.add_mul_mod_self_left, Nat.mod_eq_of_lt (by omega)]
  have hlen : atI s.b pc s.h < (cRows s.c (2 ^ s.b)).length := by rw [cRows, tblOf_len]; exact ha
  have hset : ∀ x, learnC s.b s.h pc tk s.c (atI s.b pc s.h) = x → _ := fun x hx => crow_set s.c (learnC s.b s.h pc tk s.c) ha x hx fun j hj => by unfold learnC; rw [if_neg hj]
  have eH := learnH_eq (h := s.h) (tk := tk) h1
  have hH : learnH s.b s.h tk < 2 ^ s.b := learnH_lt h1
  unfold learnC at hset
  rw [if_pos rfl] at hset
  repeat ((conv => whnf); (first | refine Cnd.yes ?_ | refine Cnd.no ?_ | refine And.intro rfl ?_ | refine And.intro (by omega) ?_ | (refine And.intro ?_ ?_; focus (simp only [IntKind.wrap_i64, IntKind.wrap_u64, IntKind.wrap_u32]; omega)) | (refine And.intro ?_ ?_; focus (simp only [zl1, zl2, zl3, zl4, zl5, zl6, zl7, zl8] <;> omega)) | (refine Cnd.tt ?_ ?_; focus (first | (apply decide_eq_true; omega) | (simp only [zq1, zq2, zq3, zq4, zq5, zq6, zq7, zq8, zq9, zq10, zq11, zq12] <;> omega) | rfl)) | (refine Cnd.ff ?_ ?_; focus (first | (apply decide_eq_false; omega) | (simp only [zq1, zq2, zq3, zq4, zq5, zq6, zq7, zq8, zq9, zq10, zq11, zq12] <;> omega) | rfl))))
  conv => whnf
  refine ⟨true, s, pc, rfl, rfl, hs, h3, ?_⟩
  have e5 : ∀ t : Nat, t ≤ 1 → IntKind.u32.wrap (IntKind.u32.wrap (2 * (s.h : Int)) + (t : Int)) = ((2 * s.h + t : Nat) : Int) := fun t ht => by rw [IntKind.wrap_u32, IntKind.wrap_u32]; omega
  cases tk with
  | true =>
    rw [if_pos rfl] at hset eH
    have e6 := e5 1 (by omega)
    repeat ((conv => whnf); (first | refine Cnd.yes ?_ | refine Cnd.no ?_ | refine And.intro rfl ?_ | refine And.intro (by omega) ?_ | (refine And.intro ?_ ?_; focus (simp only [IntKind.wrap_i64, IntKind.wrap_u64, IntKind.wrap_u32]; omega)) | (refine And.intro ?_ ?_; focus (simp only [zl1, zl2, zl3, zl4, zl5, zl6, zl7, zl8] <;> omega)) | (refine Cnd.tt ?_ ?_; focus (first | (apply decide_eq_true; omega) | (simp only [zq1, zq2, zq3, zq4, zq5, zq6, zq7, zq8, zq9, zq10, zq11, zq12] <;> omega) | rfl)) | (refine Cnd.ff ?_ ?_; focus (first | (apply decide_eq_false; omega) | (simp only [zq1, zq2, zq3, zq4, zq5, zq6, zq7, zq8, zq9, zq10, zq11, zq12] <;> omega) | rfl))))
    conv => whnf
    rw [e0, hset (if IntKind.i64.wrap (s.c (atI s.b pc s.h) + 1) < 3 then IntKind.i64.wrap (s.c (atI s.b pc s.h) + 1) else 3) (by rw [IntKind.wrap_i64]; split <;> omega)]
    repeat ((conv => whnf); (first | refine Cnd.yes ?_ | refine Cnd.no ?_ | refine And.intro rfl ?_ | refine And.intro (by omega) ?_ | (refine And.intro ?_ ?_; focus (simp only [IntKind.wrap_i64, IntKind.wrap_u64, IntKind.wrap_u32]; omega)) | (refine And.intro ?_ ?_; focus (simp only [zl1, zl2, zl3, zl4, zl5, zl6, zl7, zl8] <;> omega)) | (refine Cnd.tt ?_ ?_; focus (first | (apply decide_eq_true; omega) | (simp only [zq1, zq2, zq3, zq4, zq5, zq6, zq7, zq8, zq9, zq10, zq11, zq12] <;> omega) | rfl)) | (refine Cnd.ff ?_ ?_; focus (first | (apply decide_eq_false; omega) | (simp only [zq1, zq2, zq3, zq4, zq5, zq6, zq7, zq8, zq9, zq10, zq11, zq12] <;> omega) | rfl))))
    conv => whnf
    intro Mr hMr
    repeat ((conv => whnf); (first | refine Cnd.yes ?_ | refine Cnd.no ?_ | refine And.intro rfl ?_ | refine And.intro (by omega) ?_ | (refine And.intro ?_ ?_; focus (simp only [IntKind.wrap_i64, IntKind.wrap_u64, IntKind.wrap_u32]; omega)) | (refine And.intro ?_ ?_; focus (simp only [zl1, zl2, zl3, zl4, zl5, zl6, zl7, zl8] <;> omega)) | (refine Cnd.tt ?_ ?_; focus (first | (apply decide_eq_true; omega) | (simp only [zq1, zq2, zq3, zq4, zq5, zq6, zq7, zq8, zq9, zq10, zq11, zq12] <;> omega) | rfl)) | (refine Cnd.ff ?_ ?_; focus (first | (apply decide_eq_false; omega) | (simp only [zq1, zq2, zq3, zq4, zq5, zq6, zq7, zq8, zq9, zq10, zq11, zq12] <;> omega) | rfl))))
    conv => whnf
    refine ⟨2 * s.h + 1, s.b, ?_, rfl, by omega, ⟨h1, h2⟩, ?_⟩
    · rw [← e6]; rfl
    repeat ((conv => whnf); (first | refine Cnd.yes ?_ | refine Cnd.no ?_ | refine And.intro rfl ?_ | refine And.intro (by omega) ?_ | (refine And.intro ?_ ?_; focus (simp only [IntKind.wrap_i64, IntKind.wrap_u64, IntKind.wrap_u32]; omega)) | (refine And.intro ?_ ?_; focus (simp only [zl1, zl2, zl3, zl4, zl5, zl6, zl7, zl8] <;> omega)) | (refine Cnd.tt ?_ ?_; focus (first | (apply decide_eq_true; omega) | (simp only [zq1, zq2, zq3, zq4, zq5, zq6, zq7, zq8, zq9, zq10, zq11, zq12] <;> omega) | rfl)) | (refine Cnd.ff ?_ ?_; focus (first | (apply decide_eq_false; omega) | (simp only [zq1, zq2, zq3, zq4, zq5, zq6, zq7, zq8, zq9, zq10, zq11, zq12] <;> omega) | rfl))))
    conv => whnf
    rw [hl 1 (by omega), ← eH]
    exact hK
  | false =>
    rw [if_neg (by decide)] at hset eH
    have e6 := e5 0 (by omega)
    repeat ((conv => whnf); (first | refine Cnd.yes ?_ | refine Cnd.no ?_ | refine And.intro rfl ?_ | refine And.intro (by omega) ?_ | (refine And.intro ?_ ?_; focus (simp only [IntKind.wrap_i64, IntKind.wrap_u64, IntKind.wrap_u32]; omega)) | (refine And.intro ?_ ?_; focus (simp only [zl1, zl2, zl3, zl4, zl5, zl6, zl7, zl8] <;> omega)) | (refine Cnd.tt ?_ ?_; focus (first | (apply decide_eq_true; omega) | (simp only [zq1, zq2, zq3, zq4, zq5, zq6, zq7, zq8, zq9, zq10, zq11, zq12] <;> omega) | rfl)) | (refine Cnd.ff ?_ ?_; focus (first | (apply decide_eq_false; omega) | (simp only [zq1, zq2, zq3, zq4, zq5, zq6, zq7, zq8, zq9, zq10, zq11, zq12] <;> omega) | rfl))))
    conv => whnf
    rw [e0, hset (if IntKind.i64.wrap (s.c (atI s.b pc s.h) - 1) > 0 then IntKind.i64.wrap (s.c (atI s.b pc s.h) - 1) else 0) (by rw [IntKind.wrap_i64]; split <;> split <;> omega)]
    repeat ((conv => whnf); (first | refine Cnd.yes ?_ | refine Cnd.no ?_ | refine And.intro rfl ?_ | refine And.intro (by omega) ?_ | (refine And.intro ?_ ?_; focus (simp only [IntKind.wrap_i64, IntKind.wrap_u64, IntKind.wrap_u32]; omega)) | (refine And.intro ?_ ?_; focus (simp only [zl1, zl2, zl3, zl4, zl5, zl6, zl7, zl8] <;> omega)) | (refine Cnd.tt ?_ ?_; focus (first | (apply decide_eq_true; omega) | (simp only [zq1, zq2, zq3, zq4, zq5, zq6, zq7, zq8, zq9, zq10, zq11, zq12] <;> omega) | rfl)) | (refine Cnd.ff ?_ ?_; focus (first | (apply decide_eq_false; omega) | (simp only [zq1, zq2, zq3, zq4, zq5, zq6, zq7, zq8, zq9, zq10, zq11, zq12] <;> omega) | rfl))))
    conv => whnf
    intro Mr hMr
    repeat ((conv => whnf); (first | refine Cnd.yes ?_ | refine Cnd.no ?_ | refine And.intro rfl ?_ | refine And.intro (by omega) ?_ | (refine And.intro ?_ ?_; focus (simp only [IntKind.wrap_i64, IntKind.wrap_u64, IntKind.wrap_u32]; omega)) | (refine And.intro ?_ ?_; focus (simp only [zl1, zl2, zl3, zl4, zl5, zl6, zl7, zl8] <;> omega)) | (refine Cnd.tt ?_ ?_; focus (first | (apply decide_eq_true; omega) | (simp only [zq1, zq2, zq3, zq4, zq5, zq6, zq7, zq8, zq9, zq10, zq11, zq12] <;> omega) | rfl)) | (refine Cnd.ff ?_ ?_; focus (first | (apply decide_eq_false; omega) | (simp only [zq1, zq2, zq3, zq4, zq5, zq6, zq7, zq8, zq9, zq10, zq11, zq12] <;> omega) | rfl))))
    conv => whnf
    refine ⟨2 * s.h + 0, s.b, ?_, rfl, by omega, ⟨h1, h2⟩, ?_⟩
    · rw [← e6]; rfl
    repeat ((conv => whnf); (first | refine Cnd.yes ?_ | refine Cnd.no ?_ | refine And.intro rfl ?_ | refine And.intro (by omega) ?_ | (refine And.intro ?_ ?_; focus (simp only [IntKind.wrap_i64, IntKind.wrap_u64, IntKind.wrap_u32]; omega)) | (refine And.intro ?_ ?_; focus (simp only [zl1, zl2, zl3, zl4, zl5, zl6, zl7, zl8] <;> omega)) | (refine Cnd.tt ?_ ?_; focus (first | (apply decide_eq_true; omega) | (simp only [zq1, zq2, zq3, zq4, zq5, zq6, zq7, zq8, zq9, zq10, zq11, zq12] <;> omega) | rfl)) | (refine Cnd.ff ?_ ?_; focus (first | (apply decide_eq_false; omega) | (simp only [zq1, zq2, zq3, zq4, zq5, zq6, zq7, zq8, zq9, zq10, zq11, zq12] <;> omega) | rfl))))
    conv => whnf
    rw [hl 0 (by omega), ← eH]
    exact hK
def xlearnS : Vc.Spec := fun args hp _ K => ∃ (s : XS) (pc : Nat) (tk : Bool), args = [.ptr 0 0 0 0, .v (.int .u32 pc), .v (.bool tk)] ∧ hp = xHp true s ∧ s.OK ∧ pc < 4294967296 ∧ K (.tup []) (xHp true { s with h := learnH s.b s.h tk, c := learnC s.b s.h pc tk s.c })
theorem xlearn_ok : SOK Tryd.prog 20 xlearnS := by
  refine TOK.weaken (runF_eq GX3_ok mixed at20.1 at20.2 pf20_eq) fun args hp M K h => ?_
  obtain ⟨s, pc, tk, rfl, rfl, h1, h2, h3⟩ := h
  exact xlearn_run M K s h1 pc tk h2 h3
theorem xseen_run (M : HL) (K : SV → List Ent → HL → Prop) (s : XS) (hs : s.OK) (pc to : Nat) (h3 : pc < 4294967296) (hK : K (.tup []) (xHp true { s with f := seenF s.b pc to s.f }) M) :
    runF GX3 pf21 [.ptr 0 0 0 0, .v (.int .u32 pc), .v (.int .u32 to)] (xHp true s) M K := by
  have ha : slot s.b pc < 2 ^ s.b := Nat.mod_lt _ (Nat.pow_pos (by omega))
  have q1 : slot s.b pc < (pRows s.f (2 ^ s.b)).length := by rw [pRows, tblOf_len]; exact ha
  have q2 : slot s.b pc < (tRows s.f (2 ^ s.b)).length := by rw [tRows, tblOf_len]; exact ha
  have q3 : slot s.b pc < (iRows s.f (2 ^ s.b)).length := by rw [iRows, tblOf_len]; exact ha
  have e1 : (pRows s.f (2 ^ s.b)).set (0 + (slot s.b pc : Int).toNat) (over ((pRows s.f (2 ^ s.b)).getD (0 + (slot s.b pc : Int).toNat) []) 0 [.int .u32 pc]) = pRows (seenF s.b pc to s.f) (2 ^ s.b) := by
    rw [Nat.zero_add, Int.toNat_natCast, pRows, tblOf_get _ ha, tblOf_set _ ha]
    refine tblOf_congr fun j _ => ?_
    unfold seenF; split <;> rfl
  have e2 : (tRows s.f (2 ^ s.b)).set (0 + (slot s.b pc : Int).toNat) (over ((tRows s.f (2 ^ s.b)).getD (0 + (slot s.b pc : Int).toNat) []) 0 [.int .u32 to]) = tRows (seenF s.b pc to s.f) (2 ^ s.b) := by
    rw [Nat.zero_add, Int.toNat_natCast, tRows, tblOf_get _ ha, tblOf_set _ ha]
    refine tblOf_congr fun j _ => ?_
    unfold seenF; split <;> rfl
  have e3 : (iRows s.f (2 ^ s.b)).set (0 + (slot s.b pc : Int).toNat) (over ((iRows s.f (2 ^ s.b)).getD (0 + (slot s.b pc : Int).toNat) []) 0 [.bool true]) = iRows (seenF s.b pc to s.f) (2 ^ s.b) := by
    rw [Nat.zero_add, Int.toNat_natCast, iRows, tblOf_get _ ha, tblOf_set _ ha]
    refine tblOf_congr fun j _ => ?_
    unfold seenF; split <;> rfl
  repeat ((conv => whnf); (first | refine Cnd.yes ?_ | refine Cnd.no ?_ | refine And.intro rfl ?_ | refine And.intro (by omega) ?_ | (refine And.intro ?_ ?_; focus (simp only [IntKind.wrap_i64, IntKind.wrap_u64, IntKind.wrap_u32]; omega)) | (refine And.intro ?_ ?_; focus (simp only [zl1, zl2, zl3, zl4, zl5, zl6, zl7, zl8] <;> omega)) | (refine Cnd.tt ?_ ?_; focus (first | (apply decide_eq_true; omega) | (simp only [zq1, zq2, zq3, zq4, zq5, zq6, zq7, zq8, zq9, zq10, zq11, zq12] <;> omega) | rfl)) | (refine Cnd.ff ?_ ?_; focus (first | (apply decide_eq_false; omega) | (simp only [zq1, zq2, zq3, zq4, zq5, zq6, zq7, zq8, zq9, zq10, zq11, zq12] <;> omega) | rfl))))
  conv => whnf
  refine ⟨true, s, pc, rfl, rfl, hs, h3, ?_⟩
  repeat ((conv => whnf); (first | refine Cnd.yes ?_ | refine Cnd.no ?_ | refine And.intro rfl ?_ | refine And.intro (by omega) ?_ | (refine And.intro ?_ ?_; focus (simp only [IntKind.wrap_i64, IntKind.wrap_u64, IntKind.wrap_u32]; omega)) | (refine And.intro ?_ ?_; focus (simp only [zl1, zl2, zl3, zl4, zl5, zl6, zl7, zl8] <;> omega)) | (refine Cnd.tt ?_ ?_; focus (first | (apply decide_eq_true; omega) | (simp only [zq1, zq2, zq3, zq4, zq5, zq6, zq7, zq8, zq9, zq10, zq11, zq12] <;> omega) | rfl)) | (refine Cnd.ff ?_ ?_; focus (first | (apply decide_eq_false; omega) | (simp only [zq1, zq2, zq3, zq4, zq5, zq6, zq7, zq8, zq9, zq10, zq11, zq12] <;> omega) | rfl))))
  conv => whnf
  rw [e1, e2, e3]
  exact hK
def xseenS : Vc.Spec := fun args hp _ K => ∃ (s : XS) (pc to : Nat), args = [.ptr 0 0 0 0, .v (.int .u32 pc), .v (.int .u32 to)] ∧ hp = xHp true s ∧ s.OK ∧ pc < 4294967296 ∧ K (.tup []) (xHp true { s with f := seenF s.b pc to s.f })
theorem xseen_ok : SOK Tryd.prog 21 xseenS := by
  refine TOK.weaken (runF_eq GX3_ok mixed at21.1 at21.2 pf21_eq) fun args hp M K h => ?_
  obtain ⟨s, pc, to, rfl, rfl, h1, h2, h3⟩ := h
  exact xseen_run M K s h1 pc to h2 h3
def callHp (s : XS) (pc : Nat) : List Ent := [.cells 58 [.v (.int .i64 s.b), .slc 1 1 0 (2 ^ s.b), .v (.int .u32 s.h), .slc 2 1 0 (2 ^ s.b), .slc 3 1 0 (2 ^ s.b), .slc 4 1 0 (2 ^ s.b), .slc 6 1 (s.l.length + 1 - 8) (min (s.l.length + 1) 8)],
   .row true 3 [.int .i64] (cRows s.c (2 ^ s.b)), .row true 22 [.int .u32] (pRows s.f (2 ^ s.b)), .row true 22 [.int .u32] (tRows s.f (2 ^ s.b)), .row true 4 [.bool] (iRows s.f (2 ^ s.b)), .gone, .row true 22 [.int .u32] ((callL s.l pc).map wrow)]
theorem xcall_run (M : HL) (K : SV → List Ent → HL → Prop) (s : XS) (hs : s.OK) (pc : Nat) (h3 : pc < 4294967296) (hK : K (.tup []) (callHp s pc) M) :
    runF GX3 pf22 [.ptr 0 0 0 0, .v (.int .u32 pc)] (xHp true s) M fun v hp2 M2 => ∃ m v' hp', Wk (llen (xHp true s)) m [v] hp2 [v'] hp' (K v' hp' M2) := by
  have hl := hs.l
  have e : IntKind.u32.wrap ((pc : Int) + 4) = ((pc + 4) % 4294967296 : Nat) := by rw [IntKind.wrap_u32]; omega
  have er : List.take s.l.length (List.drop 0 (List.map wrow s.l)) ++ List.take 1 (List.drop 0 [[Value.int IntKind.u32 ((pc + 4) % 4294967296 : Nat)]]) = List.map wrow (callL s.l pc) := by
    rw [List.drop_zero, List.take_of_length_le (by simp)]
    simp [callL, wrow]
  repeat ((conv => whnf); (first | refine Cnd.yes ?_ | refine Cnd.no ?_ | refine And.intro rfl ?_ | refine And.intro (by omega) ?_ | (refine And.intro ?_ ?_; focus (simp only [IntKind.wrap_i64, IntKind.wrap_u64, IntKind.wrap_u32]; omega)) | (refine And.intro ?_ ?_; focus (simp only [zl1, zl2, zl3, zl4, zl5, zl6, zl7, zl8] <;> omega)) | (refine Cnd.tt ?_ ?_; focus (first | (apply decide_eq_true; omega) | (simp only [zq1, zq2, zq3, zq4, zq5, zq6, zq7, zq8, zq9, zq10, zq11, zq12] <;> omega) | rfl)) | (refine Cnd.ff ?_ ?_; focus (first | (apply decide_eq_false; omega) | (simp only [zq1, zq2, zq3, zq4, zq5, zq6, zq7, zq8, zq9, zq10, zq11, zq12] <;> omega) | rfl))))
  conv => whnf
  refine ⟨true, 22, s.pre, s.l, s.post, rfl, rfl, by omega, ?_⟩
  repeat ((conv => whnf); (first | refine Cnd.yes ?_ | refine Cnd.no ?_ | refine And.intro rfl ?_ | refine And.intro (by omega) ?_ | (refine And.intro ?_ ?_; focus (simp only [IntKind.wrap_i64, IntKind.wrap_u64, IntKind.wrap_u32]; omega)) | (refine And.intro ?_ ?_; focus (simp only [zl1, zl2, zl3, zl4, zl5, zl6, zl7, zl8] <;> omega)) | (refine Cnd.tt ?_ ?_; focus (first | (apply decide_eq_true; omega) | (simp only [zq1, zq2, zq3, zq4, zq5, zq6, zq7, zq8, zq9, zq10, zq11, zq12] <;> omega) | rfl)) | (refine Cnd.ff ?_ ?_; focus (first | (apply decide_eq_false; omega) | (simp only [zq1, zq2, zq3, zq4, zq5, zq6, zq7, zq8, zq9, zq10, zq11, zq12] <;> omega) | rfl))))
  conv => whnf
  rw [e]
  by_cases h8 : 8 ≤ s.l.length
  · repeat ((conv => whnf); (first | refine Cnd.yes ?_ | refine Cnd.no ?_ | refine And.intro rfl ?_ | refine And.intro (by omega) ?_ | (refine And.intro ?_ ?_; focus (simp only [IntKind.wrap_i64, IntKind.wrap_u64, IntKind.wrap_u32]; omega)) | (refine And.intro ?_ ?_; focus (simp only [zl1, zl2, zl3, zl4, zl5, zl6, zl7, zl8] <;> omega)) | (refine Cnd.tt ?_ ?_; focus (first | (apply decide_eq_true; omega) | (simp only [zq1, zq2, zq3, zq4, zq5, zq6, zq7, zq8, zq9, zq10, zq11, zq12] <;> omega) | rfl)) | (refine Cnd.ff ?_ ?_; focus (first | (apply decide_eq_false; omega) | (simp only [zq1, zq2, zq3, zq4, zq5, zq6, zq7, zq8, zq9, zq10, zq11, zq12] <;> omega) | rfl))))
    conv => whnf
    refine ⟨[0, 1, 2, 3, 4, 5, 8], .tup [], callHp s pc, ?_⟩
    repeat ((conv => whnf); (first | refine Cnd.yes ?_ | refine Cnd.no ?_ | refine And.intro rfl ?_ | refine And.intro (by omega) ?_ | (refine And.intro ?_ ?_; focus (simp only [IntKind.wrap_i64, IntKind.wrap_u64, IntKind.wrap_u32]; omega)) | (refine And.intro ?_ ?_; focus (simp only [zl1, zl2, zl3, zl4, zl5, zl6, zl7, zl8] <;> omega)) | (refine And.intro ?_ ?_; focus (simp; done))))
    conv => whnf
    exact hK
  · repeat ((conv => whnf); (first | refine Cnd.yes ?_ | refine Cnd.no ?_ | refine And.intro rfl ?_ | refine And.intro (by omega) ?_ | (refine And.intro ?_ ?_; focus (simp only [IntKind.wrap_i64, IntKind.wrap_u64, IntKind.wrap_u32]; omega)) | (refine And.intro ?_ ?_; focus (simp only [zl1, zl2, zl3, zl4, zl5, zl6, zl7, zl8] <;> omega)) | (refine Cnd.tt ?_ ?_; focus (first | (apply decide_eq_true; omega) | (simp only [zq1, zq2, zq3, zq4, zq5, zq6, zq7, zq8, zq9, zq10, zq11, zq12] <;> omega) | rfl)) | (refine Cnd.ff ?_ ?_; focus (first | (apply decide_eq_false; omega) | (simp only [zq1, zq2, zq3, zq4, zq5, zq6, zq7, zq8, zq9, zq10, zq11, zq12] <;> omega) | rfl))))
    conv => whnf
    refine ⟨[0, 1, 2, 3, 4, 5, 8], .tup [], callHp s pc, ?_⟩
    repeat ((conv => whnf); (first | refine Cnd.yes ?_ | refine Cnd.no ?_ | refine And.intro rfl ?_ | refine And.intro (by omega) ?_ | (refine And.intro ?_ ?_; focus (simp only [IntKind.wrap_i64, IntKind.wrap_u64, IntKind.wrap_u32]; omega)) | (refine And.intro ?_ ?_; focus (simp only [zl1, zl2, zl3, zl4, zl5, zl6, zl7, zl8] <;> omega)) | (refine And.intro ?_ ?_; focus (simp; done))))
    conv => whnf
    exact hK
def xcallS : Vc.Spec := fun args hp _ K => ∃ (s : XS) (pc : Nat), args = [.ptr 0 0 0 0, .v (.int .u32 pc)] ∧ hp = xHp true s ∧ s.OK ∧ pc < 4294967296 ∧ K (.tup []) (callHp s pc)
theorem xcall_ok : SOK Tryd.prog 22 xcallS := by
  refine TOK.weaken (TOK.out (runF_eq GX3_ok mixed at22.1 at22.2 pf22_eq)) fun args hp M K h => ?_
  obtain ⟨s, pc, rfl, rfl, h1, h2, h3⟩ := h
  exact xcall_run M K s h1 pc h2 h3
theorem xback0_run (M : HL) (K : SV → List Ent → HL → Prop) (s : XS) (h0 : s.l = []) (hK : K (.tup [.v (.int .u32 0), .v (.bool false)]) (xHp true s) M) :
    runF GX3 pf23 [.ptr 0 0 0 0] (xHp true s) M K := by
  have h1 : s.l.length = 0 := by rw [h0]; rfl
  repeat ((conv => whnf); (first | refine Cnd.yes ?_ | refine Cnd.no ?_ | refine And.intro rfl ?_ | refine And.intro (by omega) ?_ | (refine And.intro ?_ ?_; focus (simp only [IntKind.wrap_i64, IntKind.wrap_u64, IntKind.wrap_u32]; omega)) | (refine And.intro ?_ ?_; focus (simp only [zl1, zl2, zl3, zl4, zl5, zl6, zl7, zl8] <;> omega)) | (refine Cnd.tt ?_ ?_; focus (first | (apply decide_eq_true; omega) | (simp only [zq1, zq2, zq3, zq4, zq5, zq6, zq7, zq8, zq9, zq10, zq11, zq12] <;> omega) | rfl)) | (refine Cnd.ff ?_ ?_; focus (first | (apply decide_eq_false; omega) | (simp only [zq1, zq2, zq3, zq4, zq5, zq6, zq7, zq8, zq9, zq10, zq11, zq12] <;> omega) | rfl))))
  conv => whnf
  exact hK
theorem xback_run (M : HL) (K : SV → List Ent → HL → Prop) (s : XS) (l : List Nat) (x : Nat) (hs : s.l = l ++ [x]) (h1 : l.length ≤ 100) (hK : K (.tup [.v (.int .u32 x), .v (.bool true)]) (xHp true { s with l := l, post := x :: s.post }) M) :
    runF GX3 pf23 [.ptr 0 0 0 0] (xHp true s) M K := by
  have hl : s.l.length = l.length + 1 := by rw [hs]; simp
  have hrows : (s.pre ++ s.l ++ s.post).map wrow = (s.pre ++ l ++ (x :: s.post)).map wrow := by rw [hs]; simp
  have hc : toI (cellAt ((s.pre ++ l ++ (x :: s.post)).map wrow) (s.pre.length + l.length) 0) = (x : Nat) := by simp [cellAt, wrow, toI, List.getD]
  unfold xHp at hK ⊢
  rw [hl, hrows]
  have e : IntKind.i64.wrap (((l.length + 1 : Nat) : Int) - 1) = (l.length : Nat) := by rw [IntKind.wrap_i64]; omega
  repeat ((conv => whnf); (first | refine Cnd.yes ?_ | refine Cnd.no ?_ | refine And.intro rfl ?_ | refine And.intro (by omega) ?_ | (refine And.intro ?_ ?_; focus (simp only [IntKind.wrap_i64, IntKind.wrap_u64, IntKind.wrap_u32]; omega)) | (refine And.intro ?_ ?_; focus (simp only [zl1, zl2, zl3, zl4, zl5, zl6, zl7, zl8] <;> omega)) | (refine Cnd.tt ?_ ?_; focus (first | (apply decide_eq_true; omega) | (simp only [zq1, zq2, zq3, zq4, zq5, zq6, zq7, zq8, zq9, zq10, zq11, zq12] <;> omega) | rfl)) | (refine Cnd.ff ?_ ?_; focus (first | (apply decide_eq_false; omega) | (simp only [zq1, zq2, zq3, zq4, zq5, zq6, zq7, zq8, zq9, zq10, zq11, zq12] <;> omega) | rfl))))
  conv => whnf
  rw [e, Int.toNat_natCast, hc]
  exact hK
def xbackS : Vc.Spec := fun args hp _ K => (∃ (s : XS), args = [.ptr 0 0 0 0] ∧ hp = xHp true s ∧ s.l = [] ∧ K (.tup [.v (.int .u32 0), .v (.bool false)]) (xHp true s)) ∨
  (∃ (s : XS) (l : List Nat) (x : Nat), args = [.ptr 0 0 0 0] ∧ hp = xHp true s ∧ s.l = l ++ [x] ∧ l.length ≤ 100 ∧ K (.tup [.v (.int .u32 x), .v (.bool true)]) (xHp true { s with l := l, post := x :: s.post }))
theorem xback_ok : SOK Tryd.prog 23 xbackS := by
  refine TOK.weaken (runF_eq GX3_ok mixed at23.1 at23.2 pf23_eq) fun args hp M K h => ?_
  rcases h with ⟨s, rfl, rfl, h1, h⟩ | ⟨s, l, x, rfl, rfl, h1, h2, h⟩
  · exact xback0_run M K s h1 h
  · exact xback_run M K s l x h1 h2 h
/-- Where it goes on. -/
def nextV (c : Nat → Int) (f : Nat → Tg) (b h pc : Nat) : Int := if (f (slot b pc)).is = true ∧ (f (slot b pc)).pc = pc ∧ c (atI b pc h) ≥ 2 then (f (slot b pc)).to else IntKind.u32.wrap ((pc : Int) + 4)
theorem xnext_runT (M : HL) (K : SV → List Ent → HL → Prop) (s : XS) (hs : s.OK) (pc : Nat) (h3 : pc < 4294967296) (hK : K (.v (.int .u32 (nextV s.c s.f s.b s.h pc))) (xHp true s) M) :
    runF GX3 pf26 [.ptr 0 0 0 0, .v (.int .u32 pc)] (xHp true s) M K := by
  unfold nextV at hK
  repeat ((conv => whnf); (first | refine Cnd.yes ?_ | refine Cnd.no ?_ | refine And.intro rfl ?_ | refine And.intro (by omega) ?_ | (refine And.intro ?_ ?_; focus (simp only [IntKind.wrap_i64, IntKind.wrap_u64, IntKind.wrap_u32]; omega)) | (refine And.intro ?_ ?_; focus (simp only [zl1, zl2, zl3, zl4, zl5, zl6, zl7, zl8] <;> omega)) | (refine Cnd.tt ?_ ?_; focus (first | (apply decide_eq_true; omega) | (simp only [zq1, zq2, zq3, zq4, zq5, zq6, zq7, zq8, zq9, zq10, zq11, zq12] <;> omega) | rfl)) | (refine Cnd.ff ?_ ?_; focus (first | (apply decide_eq_false; omega) | (simp only [zq1, zq2, zq3, zq4, zq5, zq6, zq7, zq8, zq9, zq10, zq11, zq12] <;> omega) | rfl))))
  conv => whnf
  refine ⟨true, s, pc, rfl, rfl, hs, h3, ?_⟩
  unfold goes
  by_cases h1 : (s.f (slot s.b pc)).is = true ∧ (s.f (slot s.b pc)).pc = pc
  · rw [if_pos h1, decide_eq_true h1]
    repeat ((conv => whnf); (first | refine Cnd.yes ?_ | refine Cnd.no ?_ | refine And.intro rfl ?_ | refine And.intro (by omega) ?_ | (refine And.intro ?_ ?_; focus (simp only [IntKind.wrap_i64, IntKind.wrap_u64, IntKind.wrap_u32]; omega)) | (refine And.intro ?_ ?_; focus (simp only [zl1, zl2, zl3, zl4, zl5, zl6, zl7, zl8] <;> omega)) | (refine Cnd.tt ?_ ?_; focus (first | (apply decide_eq_true; omega) | (simp only [zq1, zq2, zq3, zq4, zq5, zq6, zq7, zq8, zq9, zq10, zq11, zq12] <;> omega) | rfl)) | (refine Cnd.ff ?_ ?_; focus (first | (apply decide_eq_false; omega) | (simp only [zq1, zq2, zq3, zq4, zq5, zq6, zq7, zq8, zq9, zq10, zq11, zq12] <;> omega) | rfl))))
    conv => whnf
    refine ⟨true, s, pc, rfl, rfl, hs, h3, ?_⟩
    by_cases h2 : s.c (atI s.b pc s.h) ≥ 2
    · rw [decide_eq_true h2]
      rw [if_pos ⟨h1.1, h1.2, h2⟩] at hK
      repeat ((conv => whnf); (first | refine Cnd.yes ?_ | refine Cnd.no ?_ | refine And.intro rfl ?_ | refine And.intro (by omega) ?_ | (refine And.intro ?_ ?_; focus (simp only [IntKind.wrap_i64, IntKind.wrap_u64, IntKind.wrap_u32]; omega)) | (refine And.intro ?_ ?_; focus (simp only [zl1, zl2, zl3, zl4, zl5, zl6, zl7, zl8] <;> omega)) | (refine Cnd.tt ?_ ?_; focus (first | (apply decide_eq_true; omega) | (simp only [zq1, zq2, zq3, zq4, zq5, zq6, zq7, zq8, zq9, zq10, zq11, zq12] <;> omega) | rfl)) | (refine Cnd.ff ?_ ?_; focus (first | (apply decide_eq_false; omega) | (simp only [zq1, zq2, zq3, zq4, zq5, zq6, zq7, zq8, zq9, zq10, zq11, zq12] <;> omega) | rfl))))
      conv => whnf
      exact hK
    · rw [decide_eq_false h2]
      rw [if_neg fun h => h2 h.2.2] at hK
      repeat ((conv => whnf); (first | refine Cnd.yes ?_ | refine Cnd.no ?_ | refine And.intro rfl ?_ | refine And.intro (by omega) ?_ | (refine And.intro ?_ ?_; focus (simp only [IntKind.wrap_i64, IntKind.wrap_u64, IntKind.wrap_u32]; omega)) | (refine And.intro ?_ ?_; focus (simp only [zl1, zl2, zl3, zl4, zl5, zl6, zl7, zl8] <;> omega)) | (refine Cnd.tt ?_ ?_; focus (first | (apply decide_eq_true; omega) | (simp only [zq1, zq2, zq3, zq4, zq5, zq6, zq7, zq8, zq9, zq10, zq11, zq12] <;> omega) | rfl)) | (refine Cnd.ff ?_ ?_; focus (first | (apply decide_eq_false; omega) | (simp only [zq1, zq2, zq3, zq4, zq5, zq6, zq7, zq8, zq9, zq10, zq11, zq12] <;> omega) | rfl))))
      conv => whnf
      exact hK
  · rw [if_neg h1, decide_eq_false h1]
    rw [if_neg fun h => h1 ⟨h.1, h.2.1⟩] at hK
    repeat ((conv => whnf); (first | refine Cnd.yes ?_ | refine Cnd.no ?_ | refine And.intro rfl ?_ | refine And.intro (by omega) ?_ | (refine And.intro ?_ ?_; focus (simp only [IntKind.wrap_i64, IntKind.wrap_u64, IntKind.wrap_u32]; omega)) | (refine And.intro ?_ ?_; focus (simp only [zl1, zl2, zl3, zl4, zl5, zl6, zl7, zl8] <;> omega)) | (refine Cnd.tt ?_ ?_; focus (first | (apply decide_eq_true; omega) | (simp only [zq1, zq2, zq3, zq4, zq5, zq6, zq7, zq8, zq9, zq10, zq11, zq12] <;> omega) | rfl)) | (refine Cnd.ff ?_ ?_; focus (first | (apply decide_eq_false; omega) | (simp only [zq1, zq2, zq3, zq4, zq5, zq6, zq7, zq8, zq9, zq10, zq11, zq12] <;> omega) | rfl))))
    conv => whnf
    exact hK
theorem xnext_runF (M : HL) (K : SV → List Ent → HL → Prop) (s : XS) (hs : s.OK) (pc : Nat) (h3 : pc < 4294967296) (hK : K (.v (.int .u32 (nextV s.c s.f s.b s.h pc))) (xHp false s) M) :
    runF GX3 pf26 [.ptr 0 0 0 0, .v (.int .u32 pc)] (xHp false s) M K := by
  unfold nextV at hK
  repeat ((conv => whnf); (first | refine Cnd.yes ?_ | refine Cnd.no ?_ | refine And.intro rfl ?_ | refine And.intro (by omega) ?_ | (refine And.intro ?_ ?_; focus (simp only [IntKind.wrap_i64, IntKind.wrap_u64, IntKind.wrap_u32]; omega)) | (refine And.intro ?_ ?_; focus (simp only [zl1, zl2, zl3, zl4, zl5, zl6, zl7, zl8] <;> omega)) | (refine Cnd.tt ?_ ?_; focus (first | (apply decide_eq_true; omega) | (simp only [zq1, zq2, zq3, zq4, zq5, zq6, zq7, zq8, zq9, zq10, zq11, zq12] <;> omega) | rfl)) | (refine Cnd.ff ?_ ?_; focus (first | (apply decide_eq_false; omega) | (simp only [zq1, zq2, zq3, zq4, zq5, zq6, zq7, zq8, zq9, zq10, zq11, zq12] <;> omega) | rfl))))
  conv => whnf
  refine ⟨false, s, pc, rfl, rfl, hs, h3, ?_⟩
  unfold goes
  by_cases h1 : (s.f (slot s.b pc)).is = true ∧ (s.f (slot s.b pc)).pc = pc
  · rw [if_pos h1, decide_eq_true h1]
    repeat ((conv => whnf); (first | refine Cnd.yes ?_ | refine Cnd.no ?_ | refine And.intro rfl ?_ | refine And.intro (by omega) ?_ | (refine And.intro ?_ ?_; focus (simp only [IntKind.wrap_i64, IntKind.wrap_u64, IntKind.wrap_u32]; omega)) | (refine And.intro ?_ ?_; focus (simp only [zl1, zl2, zl3, zl4, zl5, zl6, zl7, zl8] <;> omega)) | (refine Cnd.tt ?_ ?_; focus (first | (apply decide_eq_true; omega) | (simp only [zq1, zq2, zq3, zq4, zq5, zq6, zq7, zq8, zq9, zq10, zq11, zq12] <;> omega) | rfl)) | (refine Cnd.ff ?_ ?_; focus (first | (apply decide_eq_false; omega) | (simp only [zq1, zq2, zq3, zq4, zq5, zq6, zq7, zq8, zq9, zq10, zq11, zq12] <;> omega) | rfl))))
    conv => whnf
    refine ⟨false, s, pc, rfl, rfl, hs, h3, ?_⟩
    by_cases h2 : s.c (atI s.b pc s.h) ≥ 2
    · rw [decide_eq_true h2]
      rw [if_pos ⟨h1.1, h1.2, h2⟩] at hK
      repeat ((conv => whnf); (first | refine Cnd.yes ?_ | refine Cnd.no ?_ | refine And.intro rfl ?_ | refine And.intro (by omega) ?_ | (refine And.intro ?_ ?_; focus (simp only [IntKind.wrap_i64, IntKind.wrap_u64, IntKind.wrap_u32]; omega)) | (refine And.intro ?_ ?_; focus (simp only [zl1, zl2, zl3, zl4, zl5, zl6, zl7, zl8] <;> omega)) | (refine Cnd.tt ?_ ?_; focus (first | (apply decide_eq_true; omega) | (simp only [zq1, zq2, zq3, zq4, zq5, zq6, zq7, zq8, zq9, zq10, zq11, zq12] <;> omega) | rfl)) | (refine Cnd.ff ?_ ?_; focus (first | (apply decide_eq_false; omega) | (simp only [zq1, zq2, zq3, zq4, zq5, zq6, zq7, zq8, zq9, zq10, zq11, zq12] <;> omega) | rfl))))
      conv => whnf
      exact hK
    · rw [decide_eq_false h2]
      rw [if_neg fun h => h2 h.2.2] at hK
      repeat ((conv => whnf); (first | refine Cnd.yes ?_ | refine Cnd.no ?_ | refine And.intro rfl ?_ | refine And.intro (by omega) ?_ | (refine And.intro ?_ ?_; focus (simp only [IntKind.wrap_i64, IntKind.wrap_u64, IntKind.wrap_u32]; omega)) | (refine And.intro ?_ ?_; focus (simp only [zl1, zl2, zl3, zl4, zl5, zl6, zl7, zl8] <;> omega)) | (refine Cnd.tt ?_ ?_; focus (first | (apply decide_eq_true; omega) | (simp only [zq1, zq2, zq3, zq4, zq5, zq6, zq7, zq8, zq9, zq10, zq11, zq12] <;> omega) | rfl)) | (refine Cnd.ff ?_ ?_; focus (first | (apply decide_eq_false; omega) | (simp only [zq1, zq2, zq3, zq4, zq5, zq6, zq7, zq8, zq9, zq10, zq11, zq12] <;> omega) | rfl))))
      conv => whnf
      exact hK
  · rw [if_neg h1, decide_eq_false h1]
    rw [if_neg fun h => h1 ⟨h.1, h.2.1⟩] at hK
    repeat ((conv => whnf); (first | refine Cnd.yes ?_ | refine Cnd.no ?_ | refine And.intro rfl ?_ | refine And.intro (by omega) ?_ | (refine And.intro ?_ ?_; focus (simp only [IntKind.wrap_i64, IntKind.wrap_u64, IntKind.wrap_u32]; omega)) | (refine And.intro ?_ ?_; focus (simp only [zl1, zl2, zl3, zl4, zl5, zl6, zl7, zl8] <;> omega)) | (refine Cnd.tt ?_ ?_; focus (first | (apply decide_eq_true; omega) | (simp only [zq1, zq2, zq3, zq4, zq5, zq6, zq7, zq8, zq9, zq10, zq11, zq12] <;> omega) | rfl)) | (refine Cnd.ff ?_ ?_; focus (first | (apply decide_eq_false; omega) | (simp only [zq1, zq2, zq3, zq4, zq5, zq6, zq7, zq8, zq9, zq10, zq11, zq12] <;> omega) | rfl))))
    conv => whnf
    exact hK
def xnextS : Vc.Spec := fun args hp _ K => ∃ (o : Bool) (s : XS) (pc : Nat), args = [.ptr 0 0 0 0, .v (.int .u32 pc)] ∧ hp = xHp o s ∧ s.OK ∧ pc < 4294967296 ∧ K (.v (.int .u32 (nextV s.c s.f s.b s.h pc))) (xHp o s)
theorem xnext_ok : SOK Tryd.prog 26 xnextS := by
  refine TOK.weaken (runF_eq GX3_ok mixed at26.1 at26.2 pf26_eq) fun args hp M K h => ?_
  obtain ⟨o, s, pc, rfl, rfl, h1, h2, h3⟩ := h
  cases o with
  | true => exact xnext_runT M K s h1 pc h2 h3
  | false => exact xnext_runF M K s h1 pc h2 h3
end Go.Proofs.YtmhgiffhmcigpaaDoor
