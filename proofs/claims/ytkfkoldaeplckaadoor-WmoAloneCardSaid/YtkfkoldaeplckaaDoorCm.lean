/-
  Grow, Concat of three, walked; their contracts.
-/
import Derived.Test.YtkfkoldaeplckaaDoorCh
set_option linter.unusedSimpArgs false
set_option linter.unusedVariables false

namespace Go.Proofs.YtkfkoldaeplckaaDoor
open Go Go.Vc
set_option maxRecDepth 100000
set_option linter.unusedSimpArgs false
set_option linter.unusedVariables false
set_option maxHeartbeats 4000000
theorem grow_run (M : HL) (K : SV → List Ent → HL → Prop) (n : Nat) (hn : n ≤ 5000000) (hK : ∀ rest, K (.slc 0 1 0 0) [.row true 3 [.int .i64] rest] M) :
    runF G0 pf90 [.v (.slice none 0 0), .v (.int .i64 n)] [] M fun v hp2 M2 => ∃ m v' hp', Wk (llen ([] : List Ent)) m [v] hp2 [v'] hp' (K v' hp' M2) := by
  have e1 : IntKind.i64.wrap ((n : Int) - IntKind.i64.wrap (0 - 0)) = n := by simp only [IntKind.wrap_i64]; omega
  by_cases h0 : n = 0
  · repeat ((conv => whnf); (first | refine Cnd.yes ?_ | refine Cnd.no ?_ | refine And.intro rfl ?_ | refine aom ?_ | refine Alt.std ?_ | (show Ko_ _ _ _ _; subst hKo_) | refine ctt ?_ | refine cff ?_))
    conv => whnf
    refine ⟨[99], .slc 0 1 0 0, [.row true 3 [.int .i64] []], ?_⟩
    repeat ((conv => whnf); (first | refine Cnd.yes ?_ | refine Cnd.no ?_ | refine And.intro rfl ?_ | refine aom ?_ | refine Alt.std ?_ | (show Ko_ _ _ _ _; subst hKo_)))
    conv => whnf
    exact hK _
  · repeat ((conv => whnf); (first | refine Cnd.yes ?_ | refine Cnd.no ?_ | refine And.intro rfl ?_ | refine aom ?_ | refine Alt.std ?_ | (show Ko_ _ _ _ _; subst hKo_) | refine ctt ?_ | refine cff ?_))
    conv => whnf
    refine ⟨[0], .slc 0 1 0 0, [.row true 3 [.int .i64] (List.replicate (IntKind.i64.wrap ((n : Int) - IntKind.i64.wrap (0 - 0))).toNat [.int .i64 0])], ?_⟩
    repeat ((conv => whnf); (first | refine Cnd.yes ?_ | refine Cnd.no ?_ | refine And.intro rfl ?_ | refine aom ?_ | refine Alt.std ?_ | (show Ko_ _ _ _ _; subst hKo_)))
    conv => whnf
    exact hK _
def growS : Vc.Spec := fun args hp _ K => ∃ n : Nat, args = [.v (.slice none 0 0), .v (.int .i64 n)] ∧ hp = [] ∧ n ≤ 5000000 ∧ ∀ rest, K (.slc 0 1 0 0) [.row true 3 [.int .i64] rest]
theorem grow_ok : SOK Tryd.prog 90 growS := by
  refine TOK.weaken (TOK.out (runF_eq G0_ok mixed at90.1 at90.2 pf90_eq)) fun args hp M K h => ?_
  obtain ⟨n, rfl, rfl, h1, h2⟩ := h
  exact grow_run M K n h1 h2
noncomputable def specsI1 : Nat → Option Vc.Trans := tget [(90, frameT growS)]
noncomputable def GI1 : Nat → Option Vc.Trans := tabG specsI1 (tget tab) 5
theorem GI1_ok : GOK Tryd.prog GI1 := tabG_ok (GOK.cons (frame_ok grow_ok) .nil) tab_ok 5
def sz3 (a b c : Nat) : Nat → Nat | 0 => 0 | 1 => a | 2 => a + b | _ => a + b + c
def rw3 (A B C D : List (List Value)) : Nat → List (List Value) | 0 => A | 1 => B | 2 => C | _ => D
theorem concat_run (M : HL) (K : SV → List Ent → HL → Prop) (o : Bool) (e e1 e2 e3 : TypeId) (y1 y2 y3 : Value) (A B C : List (List Value)) (h1 : Vc.RowsIn M e1 [.int .i64] y1 A) (h2 : Vc.RowsIn M e2 [.int .i64] y2 B) (h3 : Vc.RowsIn M e3 [.int .i64] y3 C)
    (hl : A.length + B.length + C.length ≤ 5000000)
    (hK : K (.slc 1 1 0 (A.length + B.length + C.length)) [.row o e [.sl] [[y1], [y2], [y3]], .row true 3 [.int .i64] (A ++ B ++ C)] M) :
    runF GI1 pf73 [.slc 0 1 0 3] [.row o e [.sl] [[y1], [y2], [y3]]] M fun v hp2 M2 => ∃ m v' hp', Wk (llen [Ent.row o e [.sl] [[y1], [y2], [y3]]]) m [v] hp2 [v'] hp' (K v' hp' M2) := by
  have hz0 : sz3 A.length B.length C.length 0 = 0 := rfl
  have hz1 : sz3 A.length B.length C.length 1 = A.length := rfl
  have hz2 : sz3 A.length B.length C.length 2 = A.length + B.length := rfl
  have hz3 : sz3 A.length B.length C.length 3 = A.length + B.length + C.length := rfl
  have l1 := h1.len
  have l2 := h2.len
  have l3 := h3.len
  have ew1 : IntKind.i64.wrap (((sz3 A.length B.length C.length 0 : Nat) : Int) + ((A.length : Nat) : Int)) = ((A.length : Nat) : Int) := by show IntKind.i64.wrap (((0 : Nat) : Int) + _) = _; rw [IntKind.wrap_i64]; omega
  have ew2 : IntKind.i64.wrap (((sz3 A.length B.length C.length 1 : Nat) : Int) + ((B.length : Nat) : Int)) = ((A.length + B.length : Nat) : Int) := by show IntKind.i64.wrap (((A.length : Nat) : Int) + _) = _; rw [IntKind.wrap_i64]; omega
  have ew3 : IntKind.i64.wrap (((sz3 A.length B.length C.length 2 : Nat) : Int) + ((C.length : Nat) : Int)) = ((A.length + B.length + C.length : Nat) : Int) := by show IntKind.i64.wrap (((A.length + B.length : Nat) : Int) + _) = _; rw [IntKind.wrap_i64]; omega
  have c1 : slen (cellAt [[y1], [y2], [y3]] (0 + ((0 : Nat) : Int).toNat) 0) = A.length := l1
  have c2 : slen (cellAt [[y1], [y2], [y3]] (0 + ((1 : Nat) : Int).toNat) 0) = B.length := l2
  have c3 : slen (cellAt [[y1], [y2], [y3]] (0 + ((2 : Nat) : Int).toNat) 0) = C.length := l3
  repeat ((conv => whnf); (first | refine Cnd.yes ?_ | refine Cnd.no ?_ | refine And.intro rfl ?_ | refine aom ?_ | refine Alt.std ?_ | (show Ko_ _ _ _ _; subst hKo_) | refine ctt ?_ | refine cff ?_))
  conv => whnf
  refine ⟨InvS 36 (fun s : Nat => 3 - s) (fun s : Nat => s ≤ 3) (fun s : Nat => [(0, .slc 0 1 0 3), (3, .v (.int .i64 (sz3 A.length B.length C.length s))), (9, .slc 0 1 0 3), (10, .v (.int .i64 (3 : Nat))), (11, .v (.int .i64 s))]) (fun s : Nat => [Ent.row o e [.sl] [[y1], [y2], [y3]]]) M, ⟨(fun s : Nat => 3 - s) 0, [0], tmk 36 0 ((fun s : Nat => [(0, .slc 0 1 0 3), (3, .v (.int .i64 (sz3 A.length B.length C.length s))), (9, .slc 0 1 0 3), (10, .v (.int .i64 (3 : Nat))), (11, .v (.int .i64 s))]) 0), (fun s : Nat => [Ent.row o e [.sl] [[y1], [y2], [y3]]]) 0, ?_⟩, ?_⟩
  · repeat ((conv => whnf); (first | refine Cnd.yes ?_ | refine Cnd.no ?_ | refine And.intro rfl ?_ | refine aom ?_ | refine Alt.std ?_ | (show Ko_ _ _ _ _; subst hKo_)))
    conv => whnf
    exact ⟨0, Nat.zero_le _, rfl, rfl, (tmkK_eq _ _ _ _).mpr rfl, rfl⟩
  · rintro Ko_ hKo_ cnt tm hp M1 ⟨i, hC_, rfl, rfl, htm, hhp_⟩
    replace hC_ : i ≤ 3 := hC_
    have hi := hC_
    replace htm : tmkK 36 0 [(0, .slc 0 1 0 3), (3, .v (.int .i64 (sz3 A.length B.length C.length i))), (9, .slc 0 1 0 3), (10, .v (.int .i64 (3 : Nat))), (11, .v (.int .i64 i))] (fun l => tm = l) := htm
    conv at htm => whnf
    subst htm
    replace hhp_ : hp = [Ent.row o e [.sl] [[y1], [y2], [y3]]] := hhp_
    subst hhp_
    rcases (show i = 0 ∨ i = 1 ∨ i = 2 ∨ i = 3 by omega) with rfl | rfl | rfl | rfl
    · repeat ((conv => whnf); (first | refine Cnd.yes ?_ | refine Cnd.no ?_ | refine And.intro rfl ?_ | refine aom ?_ | refine Alt.std ?_ | (show Ko_ _ _ _ _; subst hKo_) | refine ctt ?_ | refine cff ?_))
      conv => whnf
      rw [c1]
      repeat ((conv => whnf); (first | refine Cnd.yes ?_ | refine Cnd.no ?_ | refine And.intro rfl ?_ | refine aom ?_ | refine Alt.std ?_ | (show Ko_ _ _ _ _; subst hKo_) | refine ctt ?_ | refine cff ?_))
      conv => whnf
      (refine ⟨(fun s : Nat => 3 - s) (1), [0], tmk 36 0 ((fun s : Nat => [(0, .slc 0 1 0 3), (3, .v (.int .i64 (sz3 A.length B.length C.length s))), (9, .slc 0 1 0 3), (10, .v (.int .i64 (3 : Nat))), (11, .v (.int .i64 s))]) (1)), (fun s : Nat => [Ent.row o e [.sl] [[y1], [y2], [y3]]]) (1), ?_, ?_⟩; focus (first | (simp only []; omega) | omega))
      repeat ((conv => whnf); (first | refine Cnd.yes ?_ | refine Cnd.no ?_ | refine And.intro rfl ?_ | refine aom ?_ | refine Alt.std ?_ | (show Ko_ _ _ _ _; subst hKo_)))
      conv => whnf
      exact ⟨1, (by omega), rfl, rfl, (tmkK_eq _ _ _ _).mpr rfl, rfl⟩
    · repeat ((conv => whnf); (first | refine Cnd.yes ?_ | refine Cnd.no ?_ | refine And.intro rfl ?_ | refine aom ?_ | refine Alt.std ?_ | (show Ko_ _ _ _ _; subst hKo_) | refine ctt ?_ | refine cff ?_))
      conv => whnf
      rw [c2]
      repeat ((conv => whnf); (first | refine Cnd.yes ?_ | refine Cnd.no ?_ | refine And.intro rfl ?_ | refine aom ?_ | refine Alt.std ?_ | (show Ko_ _ _ _ _; subst hKo_) | refine ctt ?_ | refine cff ?_))
      conv => whnf
      (refine ⟨(fun s : Nat => 3 - s) (2), [0], tmk 36 0 ((fun s : Nat => [(0, .slc 0 1 0 3), (3, .v (.int .i64 (sz3 A.length B.length C.length s))), (9, .slc 0 1 0 3), (10, .v (.int .i64 (3 : Nat))), (11, .v (.int .i64 s))]) (2)), (fun s : Nat => [Ent.row o e [.sl] [[y1], [y2], [y3]]]) (2), ?_, ?_⟩; focus (first | (simp only []; omega) | omega))
      repeat ((conv => whnf); (first | refine Cnd.yes ?_ | refine Cnd.no ?_ | refine And.intro rfl ?_ | refine aom ?_ | refine Alt.std ?_ | (show Ko_ _ _ _ _; subst hKo_)))
      conv => whnf
      exact ⟨2, (by omega), rfl, rfl, (tmkK_eq _ _ _ _).mpr rfl, rfl⟩
    · repeat ((conv => whnf); (first | refine Cnd.yes ?_ | refine Cnd.no ?_ | refine And.intro rfl ?_ | refine aom ?_ | refine Alt.std ?_ | (show Ko_ _ _ _ _; subst hKo_) | refine ctt ?_ | refine cff ?_))
      conv => whnf
      rw [c3]
      repeat ((conv => whnf); (first | refine Cnd.yes ?_ | refine Cnd.no ?_ | refine And.intro rfl ?_ | refine aom ?_ | refine Alt.std ?_ | (show Ko_ _ _ _ _; subst hKo_) | refine ctt ?_ | refine cff ?_))
      conv => whnf
      (refine ⟨(fun s : Nat => 3 - s) (3), [0], tmk 36 0 ((fun s : Nat => [(0, .slc 0 1 0 3), (3, .v (.int .i64 (sz3 A.length B.length C.length s))), (9, .slc 0 1 0 3), (10, .v (.int .i64 (3 : Nat))), (11, .v (.int .i64 s))]) (3)), (fun s : Nat => [Ent.row o e [.sl] [[y1], [y2], [y3]]]) (3), ?_, ?_⟩; focus (first | (simp only []; omega) | omega))
      repeat ((conv => whnf); (first | refine Cnd.yes ?_ | refine Cnd.no ?_ | refine And.intro rfl ?_ | refine aom ?_ | refine Alt.std ?_ | (show Ko_ _ _ _ _; subst hKo_)))
      conv => whnf
      exact ⟨3, (by omega), rfl, rfl, (tmkK_eq _ _ _ _).mpr rfl, rfl⟩
    · repeat ((conv => whnf); (first | refine Cnd.yes ?_ | refine Cnd.no ?_ | refine And.intro rfl ?_ | refine aom ?_ | refine Alt.std ?_ | (show Ko_ _ _ _ _; subst hKo_) | refine ctt ?_ | refine cff ?_))
      conv => whnf
      refine ⟨A.length + B.length + C.length, rfl, rfl, hl, fun rest => ?_⟩
      repeat ((conv => whnf); (first | refine Cnd.yes ?_ | refine Cnd.no ?_ | refine And.intro rfl ?_ | refine aom ?_ | refine Alt.std ?_ | (show Ko_ _ _ _ _; subst hKo_) | refine ctt ?_ | refine cff ?_))
      conv => whnf
      refine ⟨InvS 36 (fun s : Nat => 3 - s) (fun s : Nat => s ≤ 3) (fun s : Nat => [(0, .slc 0 1 0 3), (6, .slc 1 1 0 (sz3 A.length B.length C.length s)), (25, .slc 0 1 0 3), (26, .v (.int .i64 (3 : Nat))), (27, .v (.int .i64 s))]) (fun s : Nat => [Ent.row o e [.sl] [[y1], [y2], [y3]], .row true 3 [.int .i64] (rw3 rest A (A ++ B) (A ++ B ++ C) s)]) M1, ⟨(fun s : Nat => 3 - s) 0, [0, 1], tmk 36 0 ((fun s : Nat => [(0, .slc 0 1 0 3), (6, .slc 1 1 0 (sz3 A.length B.length C.length s)), (25, .slc 0 1 0 3), (26, .v (.int .i64 (3 : Nat))), (27, .v (.int .i64 s))]) 0), (fun s : Nat => [Ent.row o e [.sl] [[y1], [y2], [y3]], .row true 3 [.int .i64] (rw3 rest A (A ++ B) (A ++ B ++ C) s)]) 0, ?_⟩, ?_⟩
      · repeat ((conv => whnf); (first | refine Cnd.yes ?_ | refine Cnd.no ?_ | refine And.intro rfl ?_ | refine aom ?_ | refine Alt.std ?_ | (show Ko_ _ _ _ _; subst hKo_)))
        conv => whnf
        exact ⟨0, Nat.zero_le _, rfl, rfl, (tmkK_eq _ _ _ _).mpr rfl, rfl⟩
      · rintro Ko_ hKo_ cnt tm hp M1 ⟨i, hC_, rfl, rfl, htm, hhp_⟩
        replace hC_ : i ≤ 3 := hC_
        have hi := hC_
        replace htm : tmkK 36 0 [(0, .slc 0 1 0 3), (6, .slc 1 1 0 (sz3 A.length B.length C.length i)), (25, .slc 0 1 0 3), (26, .v (.int .i64 (3 : Nat))), (27, .v (.int .i64 i))] (fun l => tm = l) := htm
        conv at htm => whnf
        subst htm
        replace hhp_ : hp = [Ent.row o e [.sl] [[y1], [y2], [y3]], .row true 3 [.int .i64] (rw3 rest A (A ++ B) (A ++ B ++ C) i)] := hhp_
        subst hhp_
        rcases (show i = 0 ∨ i = 1 ∨ i = 2 ∨ i = 3 by omega) with rfl | rfl | rfl | rfl
        · repeat ((conv => whnf); (first | refine Cnd.yes ?_ | refine Cnd.no ?_ | refine And.intro rfl ?_ | refine aom ?_ | refine Alt.std ?_ | (show Ko_ _ _ _ _; subst hKo_) | refine ctt ?_ | refine cff ?_))
          conv => whnf
          refine ⟨e1, A, h1, ?_⟩
          have hr0 : (rw3 rest A (A ++ B) (A ++ B ++ C) 0).length = rest.length := rfl
          repeat ((conv => whnf); (first | refine Cnd.yes ?_ | refine Cnd.no ?_ | refine And.intro rfl ?_ | refine aom ?_ | refine Alt.std ?_ | (show Ko_ _ _ _ _; subst hKo_) | refine ctt ?_ | refine cff ?_))
          conv => whnf
          (refine ⟨(fun s : Nat => 3 - s) (1), [0, 2], tmk 36 0 ((fun s : Nat => [(0, .slc 0 1 0 3), (6, .slc 1 1 0 (sz3 A.length B.length C.length s)), (25, .slc 0 1 0 3), (26, .v (.int .i64 (3 : Nat))), (27, .v (.int .i64 s))]) (1)), (fun s : Nat => [Ent.row o e [.sl] [[y1], [y2], [y3]], .row true 3 [.int .i64] (rw3 rest A (A ++ B) (A ++ B ++ C) s)]) (1), ?_, ?_⟩; focus (first | (simp only []; omega) | omega))
          repeat ((conv => whnf); (first | refine Cnd.yes ?_ | refine Cnd.no ?_ | refine And.intro rfl ?_ | refine aom ?_ | refine Alt.std ?_ | (show Ko_ _ _ _ _; subst hKo_)))
          conv => whnf
          exact ⟨1, (by omega), rfl, rfl, (tmkK_eq _ _ _ _).mpr rfl, rfl⟩
        · repeat ((conv => whnf); (first | refine Cnd.yes ?_ | refine Cnd.no ?_ | refine And.intro rfl ?_ | refine aom ?_ | refine Alt.std ?_ | (show Ko_ _ _ _ _; subst hKo_) | refine ctt ?_ | refine cff ?_))
          conv => whnf
          refine ⟨e2, B, h2, ?_⟩
          have hr1 : (rw3 rest A (A ++ B) (A ++ B ++ C) 1).length = A.length := rfl
          repeat ((conv => whnf); (first | refine Cnd.yes ?_ | refine Cnd.no ?_ | refine And.intro rfl ?_ | refine aom ?_ | refine Alt.std ?_ | (show Ko_ _ _ _ _; subst hKo_) | refine ctt ?_ | refine cff ?_))
          conv => whnf
          (refine ⟨(fun s : Nat => 3 - s) (2), [0, 2], tmk 36 0 ((fun s : Nat => [(0, .slc 0 1 0 3), (6, .slc 1 1 0 (sz3 A.length B.length C.length s)), (25, .slc 0 1 0 3), (26, .v (.int .i64 (3 : Nat))), (27, .v (.int .i64 s))]) (2)), (fun s : Nat => [Ent.row o e [.sl] [[y1], [y2], [y3]], .row true 3 [.int .i64] (rw3 rest A (A ++ B) (A ++ B ++ C) s)]) (2), ?_, ?_⟩; focus (first | (simp only []; omega) | omega))
          repeat ((conv => whnf); (first | refine Cnd.yes ?_ | refine Cnd.no ?_ | refine And.intro rfl ?_ | refine aom ?_ | refine Alt.std ?_ | (show Ko_ _ _ _ _; subst hKo_)))
          conv => whnf
          refine ⟨by show List.take A.length (List.drop 0 A) ++ B = A ++ B; rw [List.drop_zero, List.take_length], ?_⟩
          repeat ((conv => whnf); (first | refine Cnd.yes ?_ | refine Cnd.no ?_ | refine And.intro rfl ?_ | refine aom ?_ | refine Alt.std ?_ | (show Ko_ _ _ _ _; subst hKo_)))
          conv => whnf
          exact ⟨2, (by omega), rfl, rfl, (tmkK_eq _ _ _ _).mpr rfl, rfl⟩
        · repeat ((conv => whnf); (first | refine Cnd.yes ?_ | refine Cnd.no ?_ | refine And.intro rfl ?_ | refine aom ?_ | refine Alt.std ?_ | (show Ko_ _ _ _ _; subst hKo_) | refine ctt ?_ | refine cff ?_))
          conv => whnf
          refine ⟨e3, C, h3, ?_⟩
          have hr2 : (rw3 rest A (A ++ B) (A ++ B ++ C) 2).length = A.length + B.length := List.length_append
          repeat ((conv => whnf); (first | refine Cnd.yes ?_ | refine Cnd.no ?_ | refine And.intro rfl ?_ | refine aom ?_ | refine Alt.std ?_ | (show Ko_ _ _ _ _; subst hKo_) | refine ctt ?_ | refine cff ?_))
          conv => whnf
          (refine ⟨(fun s : Nat => 3 - s) (3), [0, 2], tmk 36 0 ((fun s : Nat => [(0, .slc 0 1 0 3), (6, .slc 1 1 0 (sz3 A.length B.length C.length s)), (25, .slc 0 1 0 3), (26, .v (.int .i64 (3 : Nat))), (27, .v (.int .i64 s))]) (3)), (fun s : Nat => [Ent.row o e [.sl] [[y1], [y2], [y3]], .row true 3 [.int .i64] (rw3 rest A (A ++ B) (A ++ B ++ C) s)]) (3), ?_, ?_⟩; focus (first | (simp only []; omega) | omega))
          repeat ((conv => whnf); (first | refine Cnd.yes ?_ | refine Cnd.no ?_ | refine And.intro rfl ?_ | refine aom ?_ | refine Alt.std ?_ | (show Ko_ _ _ _ _; subst hKo_)))
          conv => whnf
          refine ⟨by show List.take (A.length + B.length) (List.drop 0 (A ++ B)) ++ C = A ++ B ++ C; rw [List.drop_zero, ← List.length_append, List.take_length], ?_⟩
          repeat ((conv => whnf); (first | refine Cnd.yes ?_ | refine Cnd.no ?_ | refine And.intro rfl ?_ | refine aom ?_ | refine Alt.std ?_ | (show Ko_ _ _ _ _; subst hKo_)))
          conv => whnf
          exact ⟨3, (by omega), rfl, rfl, (tmkK_eq _ _ _ _).mpr rfl, rfl⟩
        · repeat ((conv => whnf); (first | refine Cnd.yes ?_ | refine Cnd.no ?_ | refine And.intro rfl ?_ | refine aom ?_ | refine Alt.std ?_ | (show Ko_ _ _ _ _; subst hKo_) | refine ctt ?_ | refine cff ?_))
          conv => whnf
          refine ⟨[0, 1], .slc 1 1 0 (A.length + B.length + C.length), [.row o e [.sl] [[y1], [y2], [y3]], .row true 3 [.int .i64] (A ++ B ++ C)], ?_⟩
          repeat ((conv => whnf); (first | refine Cnd.yes ?_ | refine Cnd.no ?_ | refine And.intro rfl ?_ | refine aom ?_ | refine Alt.std ?_ | (show Ko_ _ _ _ _; subst hKo_)))
          conv => whnf
          exact hK
def concatT : Vc.Trans := fun args hp M K => ∃ (o : Bool) (e e1 e2 e3 : TypeId) (y1 y2 y3 : Value) (A B C : List (List Value)), args = [.slc 0 1 0 3] ∧ hp = [.row o e [.sl] [[y1], [y2], [y3]]] ∧ Vc.RowsIn M e1 [.int .i64] y1 A ∧ Vc.RowsIn M e2 [.int .i64] y2 B ∧ Vc.RowsIn M e3 [.int .i64] y3 C ∧
  A.length + B.length + C.length ≤ 5000000 ∧ K (.slc 1 1 0 (A.length + B.length + C.length)) [.row o e [.sl] [[y1], [y2], [y3]], .row true 3 [.int .i64] (A ++ B ++ C)] M
theorem concat_ok : TOK Tryd.prog 73 concatT := by
  refine TOK.weaken (TOK.out (runF_eq GI1_ok mixed at73.1 at73.2 pf73_eq)) fun args hp M K h => ?_
  obtain ⟨o, e, e1, e2, e3, y1, y2, y3, A, B, C, rfl, rfl, h1, h2, h3, h4, h5⟩ := h
  exact concat_run M K o e e1 e2 e3 y1 y2 y3 A B C h1 h2 h3 h4 h5
end Go.Proofs.YtkfkoldaeplckaaDoor
/-
  What an operation does, its bytes, whether it may stand where it stands (fair), walked; their contracts.
-/
namespace Go.Proofs.YtkfkoldaeplckaaDoor
open Go Go.Vc
set_option maxRecDepth 100000
set_option linter.unusedSimpArgs false
set_option linter.unusedVariables false
set_option maxHeartbeats 4000000
theorem wwr_run (M : HL) (K : SV → List Ent → HL → Prop) (x : Op) (hK : K (.v (.bool (wr x))) [] M) :
    runF G0 pf56 [.agg (osv x)] [] M fun v hp2 M2 => ∃ m v' hp', Wk (llen ([] : List Ent)) m [v] hp2 [v'] hp' (K v' hp' M2) := by
  unfold wr at hK
  repeat ((conv => whnf); (first | refine Cnd.yes ?_ | refine Cnd.no ?_ | refine And.intro rfl ?_ | refine aom ?_ | refine Alt.std ?_ | (show Ko_ _ _ _ _; subst hKo_) | refine ctt ?_ | refine cff ?_))
  conv => whnf
  refine Cnd.mk (fun h => ?_) fun h => ?_
  · rw [h, Bool.true_or] at hK
    repeat ((conv => whnf); (first | refine Cnd.yes ?_ | refine Cnd.no ?_ | refine And.intro rfl ?_ | refine aom ?_ | refine Alt.std ?_ | (show Ko_ _ _ _ _; subst hKo_) | refine ctt ?_ | refine cff ?_))
    conv => whnf
    refine ⟨[], .v (.bool true), [], ?_⟩
    repeat ((conv => whnf); (first | refine Cnd.yes ?_ | refine Cnd.no ?_ | refine And.intro rfl ?_ | refine aom ?_ | refine Alt.std ?_ | (show Ko_ _ _ _ _; subst hKo_)))
    conv => whnf
    exact hK
  · rw [h, Bool.false_or] at hK
    repeat ((conv => whnf); (first | refine Cnd.yes ?_ | refine Cnd.no ?_ | refine And.intro rfl ?_ | refine aom ?_ | refine Alt.std ?_ | (show Ko_ _ _ _ _; subst hKo_) | refine ctt ?_ | refine cff ?_))
    conv => whnf
    refine ⟨[], .v (.bool (x.k == 3)), [], ?_⟩
    repeat ((conv => whnf); (first | refine Cnd.yes ?_ | refine Cnd.no ?_ | refine And.intro rfl ?_ | refine aom ?_ | refine Alt.std ?_ | (show Ko_ _ _ _ _; subst hKo_)))
    conv => whnf
    exact hK
def wwrS : Vc.Spec := fun args hp _ K => ∃ x : Op, args = [.agg (osv x)] ∧ hp = [] ∧ K (.v (.bool (wr x))) []
theorem wwr_ok : SOK Tryd.prog 56 wwrS := by
  refine TOK.weaken (TOK.out (runF_eq G0_ok mixed at56.1 at56.2 pf56_eq)) fun args hp M K h => ?_
  obtain ⟨x, rfl, rfl, h⟩ := h
  exact wwr_run M K x h
theorem wrd_run (M : HL) (K : SV → List Ent → HL → Prop) (x : Op) (hK : K (.v (.bool (rd x))) [] M) :
    runF G0 pf59 [.agg (osv x)] [] M fun v hp2 M2 => ∃ m v' hp', Wk (llen ([] : List Ent)) m [v] hp2 [v'] hp' (K v' hp' M2) := by
  unfold rd at hK
  repeat ((conv => whnf); (first | refine Cnd.yes ?_ | refine Cnd.no ?_ | refine And.intro rfl ?_ | refine aom ?_ | refine Alt.std ?_ | (show Ko_ _ _ _ _; subst hKo_) | refine ctt ?_ | refine cff ?_))
  conv => whnf
  refine Cnd.mk (fun h => ?_) fun h => ?_
  · rw [h, Bool.true_or] at hK
    repeat ((conv => whnf); (first | refine Cnd.yes ?_ | refine Cnd.no ?_ | refine And.intro rfl ?_ | refine aom ?_ | refine Alt.std ?_ | (show Ko_ _ _ _ _; subst hKo_) | refine ctt ?_ | refine cff ?_))
    conv => whnf
    refine ⟨[], .v (.bool true), [], ?_⟩
    repeat ((conv => whnf); (first | refine Cnd.yes ?_ | refine Cnd.no ?_ | refine And.intro rfl ?_ | refine aom ?_ | refine Alt.std ?_ | (show Ko_ _ _ _ _; subst hKo_)))
    conv => whnf
    exact hK
  · rw [h, Bool.false_or] at hK
    repeat ((conv => whnf); (first | refine Cnd.yes ?_ | refine Cnd.no ?_ | refine And.intro rfl ?_ | refine aom ?_ | refine Alt.std ?_ | (show Ko_ _ _ _ _; subst hKo_) | refine ctt ?_ | refine cff ?_))
    conv => whnf
    refine ⟨[], .v (.bool (x.k == 3)), [], ?_⟩
    repeat ((conv => whnf); (first | refine Cnd.yes ?_ | refine Cnd.no ?_ | refine And.intro rfl ?_ | refine aom ?_ | refine Alt.std ?_ | (show Ko_ _ _ _ _; subst hKo_)))
    conv => whnf
    exact hK
def wrdS : Vc.Spec := fun args hp _ K => ∃ x : Op, args = [.agg (osv x)] ∧ hp = [] ∧ K (.v (.bool (rd x))) []
theorem wrd_ok : SOK Tryd.prog 59 wrdS := by
  refine TOK.weaken (TOK.out (runF_eq G0_ok mixed at59.1 at59.2 pf59_eq)) fun args hp M K h => ?_
  obtain ⟨x, rfl, rfl, h⟩ := h
  exact wrd_run M K x h
/-- A byte of a number that lies at an address. -/
def byteN (v ad b : Int) : Int := IntKind.u8.wrap (v.fdiv (2 ^ (min (IntKind.u32.wrap (8 * IntKind.u32.wrap (b - ad))).toNat IntKind.u32.bits)))
theorem byteOf_run (M : HL) (K : SV → List Ent → HL → Prop) (v ad b : Int) (hK : K (.v (.int .u8 (byteN v ad b))) [] M) :
    runF G0 pf61 [.v (.int .u32 v), .v (.int .u32 ad), .v (.int .u32 b)] [] M fun v hp2 M2 => ∃ m v' hp', Wk (llen ([] : List Ent)) m [v] hp2 [v'] hp' (K v' hp' M2) := by
  have h0 : 0 ≤ IntKind.u32.wrap (8 * IntKind.u32.wrap (b - ad)) := by rw [IntKind.wrap_u32]; omega
  repeat ((conv => whnf); (first | refine Cnd.yes ?_ | refine Cnd.no ?_ | refine And.intro rfl ?_ | refine aom ?_ | refine Alt.std ?_ | (show Ko_ _ _ _ _; subst hKo_) | refine ctt ?_ | refine cff ?_))
  conv => whnf
  refine ⟨[], .v (.int .u8 (byteN v ad b)), [], ?_⟩
  repeat ((conv => whnf); (first | refine Cnd.yes ?_ | refine Cnd.no ?_ | refine And.intro rfl ?_ | refine aom ?_ | refine Alt.std ?_ | (show Ko_ _ _ _ _; subst hKo_)))
  conv => whnf
  exact hK
def byteOfS : Vc.Spec := fun args hp _ K => ∃ v ad b : Int, args = [.v (.int .u32 v), .v (.int .u32 ad), .v (.int .u32 b)] ∧ hp = [] ∧ K (.v (.int .u8 (byteN v ad b))) []
theorem byteOf_ok : SOK Tryd.prog 61 byteOfS := by
  refine TOK.weaken (TOK.out (runF_eq G0_ok mixed at61.1 at61.2 pf61_eq)) fun args hp M K h => ?_
  obtain ⟨v, ad, b, rfl, rfl, h⟩ := h
  exact byteOf_run M K v ad b h
def urow (x : Int) : List Value := [.int .u32 x]
/-- An operation's bytes. -/
def byL (x : Op) (n : Nat) : List Int := (List.range n).map fun i : Nat => IntKind.u32.wrap (x.ad + IntKind.u32.wrap (i : Int))
theorem byL_len (x : Op) (n : Nat) : (byL x n).length = n := by simp [byL]
theorem byL_next (x : Op) (n : Nat) : (byL x n).map urow ++ [[Value.int .u32 (IntKind.u32.wrap (x.ad + IntKind.u32.wrap (n : Int)))]] = (byL x (n + 1)).map urow := by
  simp [byL, List.range_succ, urow]
theorem bytes_run (M : HL) (K : SV → List Ent → HL → Prop) (x : Op) (hsz : 0 ≤ x.sz ∧ x.sz ≤ 8) (hK : K (.slc 0 1 0 x.sz.toNat) [.row true 36 [.int .u32] ((byL x x.sz.toNat).map urow)] M) :
    runF G0 pf57 [.agg (osv x)] [] M fun v hp2 M2 => ∃ m v' hp', Wk (llen ([] : List Ent)) m [v] hp2 [v'] hp' (K v' hp' M2) := by
  obtain ⟨n, hn⟩ : ∃ n : Nat, x.sz = n := ⟨x.sz.toNat, by omega⟩
  rw [show x.sz.toNat = n by omega] at hK
  repeat ((conv => whnf); (first | refine Cnd.yes ?_ | refine Cnd.no ?_ | refine And.intro rfl ?_ | refine aom ?_ | refine Alt.std ?_ | (show Ko_ _ _ _ _; subst hKo_) | refine ctt ?_ | refine cff ?_))
  conv => whnf
  rw [hn]
  refine ⟨InvS 20 (fun s : Nat => n - s) (fun s : Nat => s ≤ n) (fun s : Nat => [(1, .ptr 0 0 0 0), (2, .v (.slice none 0 0)), (3, .slc 1 1 0 s), (6, .v (.int .i64 n)), (7, .v (.int .i64 s))]) (fun s : Nat => [Ent.cells 38 (osv x), .row true 36 [.int .u32] ((byL x s).map urow)]) M, ⟨(fun s : Nat => n - s) 0, [0, 99], tmk 20 0 ((fun s : Nat => [(1, .ptr 0 0 0 0), (2, .v (.slice none 0 0)), (3, .slc 1 1 0 s), (6, .v (.int .i64 n)), (7, .v (.int .i64 s))]) 0), (fun s : Nat => [Ent.cells 38 (osv x), .row true 36 [.int .u32] ((byL x s).map urow)]) 0, ?_⟩, ?_⟩
  · repeat ((conv => whnf); (first | refine Cnd.yes ?_ | refine Cnd.no ?_ | refine And.intro rfl ?_ | refine aom ?_ | refine Alt.std ?_ | (show Ko_ _ _ _ _; subst hKo_)))
    conv => whnf
    exact ⟨0, Nat.zero_le _, rfl, rfl, (tmkK_eq _ _ _ _).mpr rfl, rfl⟩
  · rintro Ko_ hKo_ cnt tm hp M1 ⟨i, hC_, rfl, rfl, htm, hhp_⟩
    replace hC_ : i ≤ n := hC_
    have hi := hC_
    replace htm : tmkK 20 0 [(1, .ptr 0 0 0 0), (2, .v (.slice none 0 0)), (3, .slc 1 1 0 i), (6, .v (.int .i64 n)), (7, .v (.int .i64 i))] (fun l => tm = l) := htm
    conv at htm => whnf
    subst htm
    replace hhp_ : hp = [Ent.cells 38 (osv x), .row true 36 [.int .u32] ((byL x i).map urow)] := hhp_
    subst hhp_
    have hbl := byL_len x i
    repeat ((conv => whnf); (first | refine Cnd.yes ?_ | refine Cnd.no ?_ | refine And.intro rfl ?_ | refine aom ?_ | refine Alt.std ?_ | (show Ko_ _ _ _ _; subst hKo_) | refine ctt ?_ | refine cff ?_))
    conv => whnf
    refine Cnd.mk (fun hlt => ?_) fun hge => ?_
    · have hin : i < n := by have := of_decide_eq_true hlt; omega
      repeat ((conv => whnf); (first | refine Cnd.yes ?_ | refine Cnd.no ?_ | refine And.intro rfl ?_ | refine aom ?_ | refine Alt.std ?_ | (show Ko_ _ _ _ _; subst hKo_) | refine ctt ?_ | refine cff ?_))
      conv => whnf
      (refine ⟨(fun s : Nat => n - s) (i + 1), [0, 3], tmk 20 0 ((fun s : Nat => [(1, .ptr 0 0 0 0), (2, .v (.slice none 0 0)), (3, .slc 1 1 0 s), (6, .v (.int .i64 n)), (7, .v (.int .i64 s))]) (i + 1)), (fun s : Nat => [Ent.cells 38 (osv x), .row true 36 [.int .u32] ((byL x s).map urow)]) (i + 1), ?_, ?_⟩; focus (first | (simp only []; omega) | omega))
      repeat ((conv => whnf); (first | refine Cnd.yes ?_ | refine Cnd.no ?_ | refine And.intro rfl ?_ | refine aom ?_ | refine Alt.std ?_ | (show Ko_ _ _ _ _; subst hKo_)))
      conv => whnf
      refine ⟨by rw [List.drop_zero, ← byL_next, List.take_of_length_le (by simp [hbl])]; rfl, ?_⟩
      repeat ((conv => whnf); (first | refine Cnd.yes ?_ | refine Cnd.no ?_ | refine And.intro rfl ?_ | refine aom ?_ | refine Alt.std ?_ | (show Ko_ _ _ _ _; subst hKo_)))
      conv => whnf
      exact ⟨i + 1, hin, rfl, rfl, (tmkK_eq _ _ _ _).mpr rfl, rfl⟩
    · obtain rfl : i = n := by have := of_decide_eq_false hge; omega
      repeat ((conv => whnf); (first | refine Cnd.yes ?_ | refine Cnd.no ?_ | refine And.intro rfl ?_ | refine aom ?_ | refine Alt.std ?_ | (show Ko_ _ _ _ _; subst hKo_) | refine ctt ?_ | refine cff ?_))
      conv => whnf
      refine ⟨[1], .slc 0 1 0 i, [.row true 36 [.int .u32] ((byL x i).map urow)], ?_⟩
      repeat ((conv => whnf); (first | refine Cnd.yes ?_ | refine Cnd.no ?_ | refine And.intro rfl ?_ | refine aom ?_ | refine Alt.std ?_ | (show Ko_ _ _ _ _; subst hKo_)))
      conv => whnf
      exact hK
def bytesS : Vc.Spec := fun args hp _ K => ∃ x : Op, args = [.agg (osv x)] ∧ hp = [] ∧ (0 ≤ x.sz ∧ x.sz ≤ 8) ∧ K (.slc 0 1 0 x.sz.toNat) [.row true 36 [.int .u32] ((byL x x.sz.toNat).map urow)]
theorem bytes_ok : SOK Tryd.prog 57 bytesS := by
  refine TOK.weaken (TOK.out (runF_eq G0_ok mixed at57.1 at57.2 pf57_eq)) fun args hp M K h => ?_
  obtain ⟨x, rfl, rfl, h1, h⟩ := h
  exact bytes_run M K x h1 h
end Go.Proofs.YtkfkoldaeplckaaDoor
/-
  fair, walked; its contract.
-/
namespace Go.Proofs.YtkfkoldaeplckaaDoor
open Go Go.Vc
set_option maxRecDepth 100000
set_option linter.unusedSimpArgs false
set_option linter.unusedVariables false
set_option maxHeartbeats 10000000
noncomputable def specsK1 : Nat → Option Vc.Trans := tget [(56, frameT wwrS), (73, frameM concatT)]
noncomputable def GK1 : Nat → Option Vc.Trans := tabG specsK1 (tget tab) 5
theorem GK1_ok : GOK Tryd.prog GK1 := tabG_ok (GOK.cons (frame_ok wwr_ok) (GOK.cons (frameM_ok concat_ok) .nil)) tab_ok 5
def hang (x : Op) : List Int := x.da ++ x.dd ++ x.dc
/-- Each that it hangs on stands ahead of it. -/
def depOK (x : Op) (i : Nat) : Bool := (hang x).all fun d => decide (0 ≤ d) && decide (d < i)
/-- Its form may be. -/
def formB (x : Op) : Bool :=
  if x.k < 1 ∨ 4 < x.k then false
  else if x.k = 4 then decide (x.sz = 0) && !x.pr
  else if (x.sz ≠ 1 ∧ x.sz ≠ 2 ∧ x.sz ≠ 4) ∨ x.ad.tmod x.sz ≠ 0 then false
  else if ((x.pr = true ∨ x.k = 3) ∧ x.sz ≠ 4) ∨ (x.pr = true ∧ x.k = 3) then false
  else true
def fairB (l : List Op) (i : Nat) (pair : Int) : Bool :=
  let x := l.getD i default
  depOK x i && formB x && (decide (x.k = 4) || !x.pr || !wr x || (decide (0 ≤ pair) && ((l.getD pair.toNat default).ad == x.ad)))
theorem toI_hang (x : Op) {j : Nat} (hj : j < (hang x).length) : toI (cellAt (x.da.map irow ++ x.dd.map irow ++ x.dc.map irow) (0 + (j : Int).toNat) 0) = (hang x).getD j 0 := by
  rw [← List.map_append, ← List.map_append]
  exact toI_i hj
theorem all_get {l : List Int} {p : Int → Bool} (h : ∀ j, j < l.length → p (l.getD j 0) = true) : l.all p = true := by
  rw [List.all_eq_true]
  intro x hx
  obtain ⟨j, hj, rfl⟩ := List.getElem_of_mem hx
  have := h j hj
  simpa [List.getD, hj] using this
theorem not_all {l : List Int} {p : Int → Bool} {j : Nat} (hj : j < l.length) (h : p (l.getD j 0) = false) : l.all p = false := by
  rw [List.all_eq_false]
  exact ⟨l[j], List.getElem_mem hj, by simpa [List.getD, hj] using h⟩
theorem wrap_sz {n : Int} (h : n = 1 ∨ n = 2 ∨ n = 4) : IntKind.u32.wrap n = n := by rw [IntKind.wrap_u32]; omega
theorem fair_run (M : HL) (K : SV → List Ent → HL → Prop) (o : Bool) (e : TypeId) (l : List Op) (i : Nat) (pair : Int) (x : Op) (hx0 : l.getD i default = x) (hi : i < l.length) (hl : l.length ≤ 1000) (hp : -1 ≤ pair ∧ pair < l.length) (hD : Deps M l)
    (hK : K (.v (.bool (fairB l i pair))) [.row o e ock (l.map orow)] M) :
    runF GK1 pf54 [.slc 0 13 0 l.length, .v (.int .i64 i), .v (.int .i64 pair)] [.row o e ock (l.map orow)] M fun v hp2 M2 => ∃ m v' hp', Wk (llen [Ent.row o e ock (l.map orow)]) m [v] hp2 [v'] hp' (K v' hp' M2) := by
  obtain ⟨⟨⟨e1, hR1⟩, ⟨e2, hR2⟩, ⟨e3, hR3⟩⟩, hda, hdd, hdc⟩ := hD x (by rw [← hx0]; simp [List.getD, hi])
  have hx1 : l.getD (0 + (i : Int).toNat) default = x := by rw [Nat.zero_add, Int.toNat_natCast]; exact hx0
  have l1 := hR1.len
  have l2 := hR2.len
  have l3 := hR3.len
  rw [List.length_map] at l1 l2 l3
  have hhl : (hang x).length = x.da.length + x.dd.length + x.dc.length := by simp only [hang, List.length_append]
  unfold fairB at hK
  rw [hx0] at hK
  dsimp only at hK
  repeat ((conv => whnf); (first | refine Cnd.yes ?_ | refine Cnd.no ?_ | refine And.intro rfl ?_ | refine aom ?_ | refine Alt.std ?_ | (show Ko_ _ _ _ _; subst hKo_) | refine ctt ?_ | refine cff ?_))
  conv => whnf
  have c0 : toI (cellAt (List.map orow l) (0 + (i : Int).toNat) 0) = Op.k x := by rw [ocell l (show 0 + (i : Int).toNat < l.length by omega), hx1]; rfl
  have c1 : toI (cellAt (List.map orow l) (0 + (i : Int).toNat) (0 + 1)) = Op.sz x := by rw [ocell l (show 0 + (i : Int).toNat < l.length by omega), hx1]; rfl
  have c2 : toI (cellAt (List.map orow l) (0 + (i : Int).toNat) (0 + 1 + 1)) = Op.ad x := by rw [ocell l (show 0 + (i : Int).toNat < l.length by omega), hx1]; rfl
  have c3 : toI (cellAt (List.map orow l) (0 + (i : Int).toNat) (0 + 1 + 1 + 1)) = Op.v x := by rw [ocell l (show 0 + (i : Int).toNat < l.length by omega), hx1]; rfl
  have c4 : toI (cellAt (List.map orow l) (0 + (i : Int).toNat) (0 + 1 + 1 + 1 + 1)) = Op.g x := by rw [ocell l (show 0 + (i : Int).toNat < l.length by omega), hx1]; rfl
  have c5 : toB (cellAt (List.map orow l) (0 + (i : Int).toNat) (0 + 1 + 1 + 1 + 1 + 1)) = Op.pr x := by rw [ocell l (show 0 + (i : Int).toNat < l.length by omega), hx1]; rfl
  have c6 : toB (cellAt (List.map orow l) (0 + (i : Int).toNat) (0 + 1 + 1 + 1 + 1 + 1 + 1)) = Op.aq x := by rw [ocell l (show 0 + (i : Int).toNat < l.length by omega), hx1]; rfl
  have c7 : toB (cellAt (List.map orow l) (0 + (i : Int).toNat) (0 + 1 + 1 + 1 + 1 + 1 + 1 + 1)) = Op.rl x := by rw [ocell l (show 0 + (i : Int).toNat < l.length by omega), hx1]; rfl
  have c8 : toI (cellAt (List.map orow l) (0 + (i : Int).toNat) (0 + 1 + 1 + 1 + 1 + 1 + 1 + 1 + 1)) = Op.pd x := by rw [ocell l (show 0 + (i : Int).toNat < l.length by omega), hx1]; rfl
  have c9 : toI (cellAt (List.map orow l) (0 + (i : Int).toNat) (0 + 1 + 1 + 1 + 1 + 1 + 1 + 1 + 1 + 1)) = Op.sc x := by rw [ocell l (show 0 + (i : Int).toNat < l.length by omega), hx1]; rfl
  have c10 : cellAt (List.map orow l) (0 + (i : Int).toNat) (0 + 1 + 1 + 1 + 1 + 1 + 1 + 1 + 1 + 1 + 1) = Op.ya x := by rw [ocell l (show 0 + (i : Int).toNat < l.length by omega), hx1]; rfl
  have c11 : cellAt (List.map orow l) (0 + (i : Int).toNat) (0 + 1 + 1 + 1 + 1 + 1 + 1 + 1 + 1 + 1 + 1 + 1) = Op.yd x := by rw [ocell l (show 0 + (i : Int).toNat < l.length by omega), hx1]; rfl
  have c12 : cellAt (List.map orow l) (0 + (i : Int).toNat) (0 + 1 + 1 + 1 + 1 + 1 + 1 + 1 + 1 + 1 + 1 + 1 + 1) = Op.yc x := by rw [ocell l (show 0 + (i : Int).toNat < l.length by omega), hx1]; rfl
  rw [c0, c1, c2, c3, c4, c5, c6, c7, c8, c9, c10, c11, c12]
  clear c0 c1 c2 c3 c4 c5 c6 c7 c8 c9 c10 c11 c12
  repeat ((conv => whnf); (first | refine Cnd.yes ?_ | refine Cnd.no ?_ | refine And.intro rfl ?_ | refine aom ?_ | refine Alt.std ?_ | (show Ko_ _ _ _ _; subst hKo_) | refine ctt ?_ | refine cff ?_))
  conv => whnf
  refine ⟨true, 23, e1, e2, e3, x.ya, x.yd, x.yc, x.da.map irow, x.dd.map irow, x.dc.map irow, rfl, rfl, hR1, hR2, hR3, by simp only [List.length_map]; omega, ?_⟩
  have hml : (x.da.map irow).length + (x.dd.map irow).length + (x.dc.map irow).length = (hang x).length := by simp only [List.length_map]; omega
  rw [hml]
  repeat ((conv => whnf); (first | refine Cnd.yes ?_ | refine Cnd.no ?_ | refine And.intro rfl ?_ | refine aom ?_ | refine Alt.std ?_ | (show Ko_ _ _ _ _; subst hKo_) | refine ctt ?_ | refine cff ?_))
  conv => whnf
  refine ⟨InvS 123 (fun s : Nat => (hang x).length - s) (fun s : Nat => s ≤ (hang x).length ∧ ∀ q : Nat, q < s → (decide (0 ≤ (hang x).getD q 0) && decide ((hang x).getD q 0 < i)) = true) (fun s : Nat => [(0, .slc 0 13 0 l.length), (1, .v (.int .i64 i)), (2, .v (.int .i64 pair)), (6, .v (.bool false)), (7, .ptr 1 0 0 0), (21, .slc 2 1 0 (hang x).length), (22, .v (.int .i64 (hang x).length)), (23, .v (.int .i64 s))]) (fun s : Nat => [Ent.row o e ock (l.map orow), .cells 38 (osv x), .row true 3 [.int .i64] (x.da.map irow ++ x.dd.map irow ++ x.dc.map irow)]) M, ⟨(fun s : Nat => (hang x).length - s) 0, [0, 1, 3], tmk 123 0 ((fun s : Nat => [(0, .slc 0 13 0 l.length), (1, .v (.int .i64 i)), (2, .v (.int .i64 pair)), (6, .v (.bool false)), (7, .ptr 1 0 0 0), (21, .slc 2 1 0 (hang x).length), (22, .v (.int .i64 (hang x).length)), (23, .v (.int .i64 s))]) 0), (fun s : Nat => [Ent.row o e ock (l.map orow), .cells 38 (osv x), .row true 3 [.int .i64] (x.da.map irow ++ x.dd.map irow ++ x.dc.map irow)]) 0, ?_⟩, ?_⟩
  · repeat ((conv => whnf); (first | refine Cnd.yes ?_ | refine Cnd.no ?_ | refine And.intro rfl ?_ | refine aom ?_ | refine Alt.std ?_ | (show Ko_ _ _ _ _; subst hKo_)))
    conv => whnf
    exact ⟨0, ⟨Nat.zero_le _, fun j hj => by omega⟩, rfl, rfl, (tmkK_eq _ _ _ _).mpr rfl, rfl⟩
  · rintro Ko_ hKo_ cnt tm hp M1 ⟨j, hC_, rfl, rfl, htm, hhp_⟩
    replace hC_ : j ≤ (hang x).length ∧ ∀ q : Nat, q < j → (decide (0 ≤ (hang x).getD q 0) && decide ((hang x).getD q 0 < i)) = true := hC_
    obtain ⟨hj, hall⟩ := hC_
    replace htm : tmkK 123 0 [(0, .slc 0 13 0 l.length), (1, .v (.int .i64 i)), (2, .v (.int .i64 pair)), (6, .v (.bool false)), (7, .ptr 1 0 0 0), (21, .slc 2 1 0 (hang x).length), (22, .v (.int .i64 (hang x).length)), (23, .v (.int .i64 j))] (fun l => tm = l) := htm
    conv at htm => whnf
    subst htm
    replace hhp_ : hp = [Ent.row o e ock (l.map orow), .cells 38 (osv x), .row true 3 [.int .i64] (x.da.map irow ++ x.dd.map irow ++ x.dc.map irow)] := hhp_
    subst hhp_
    repeat ((conv => whnf); (first | refine Cnd.yes ?_ | refine Cnd.no ?_ | refine And.intro rfl ?_ | refine aom ?_ | refine Alt.std ?_ | (show Ko_ _ _ _ _; subst hKo_) | refine ctt ?_ | refine cff ?_))
    conv => whnf
    refine Cnd.mk (fun hlt => ?_) fun hge => ?_
    · have hjn : j < (hang x).length := by have := of_decide_eq_true hlt; omega
      have e0 := toI_hang x hjn
      repeat ((conv => whnf); (first | refine Cnd.yes ?_ | refine Cnd.no ?_ | refine And.intro rfl ?_ | refine aom ?_ | refine Alt.std ?_ | (show Ko_ _ _ _ _; subst hKo_) | refine ctt ?_ | refine cff ?_))
      conv => whnf
      rw [e0]
      by_cases hneg : (hang x).getD j 0 < 0
      · have hno : depOK x i = false := not_all hjn (by rw [decide_eq_false (by omega), Bool.false_and])
        rw [hno, Bool.false_and, Bool.false_and] at hK
        repeat ((conv => whnf); (first | refine Cnd.yes ?_ | refine Cnd.no ?_ | refine And.intro rfl ?_ | refine aom ?_ | refine Alt.std ?_ | (show Ko_ _ _ _ _; subst hKo_) | refine ctt ?_ | refine cff ?_))
        conv => whnf
        refine ⟨[0], .v (.bool false), [.row o e ock (l.map orow)], ?_⟩
        repeat ((conv => whnf); (first | refine Cnd.yes ?_ | refine Cnd.no ?_ | refine And.intro rfl ?_ | refine aom ?_ | refine Alt.std ?_ | (show Ko_ _ _ _ _; subst hKo_)))
        conv => whnf
        exact hK
      · by_cases hbig : (i : Int) ≤ (hang x).getD j 0
        · have hno : depOK x i = false := not_all hjn (by rw [decide_eq_false (show ¬ (hang x).getD j 0 < i by omega), Bool.and_false])
          rw [hno, Bool.false_and, Bool.false_and] at hK
          repeat ((conv => whnf); (first | refine Cnd.yes ?_ | refine Cnd.no ?_ | refine And.intro rfl ?_ | refine aom ?_ | refine Alt.std ?_ | (show Ko_ _ _ _ _; subst hKo_) | refine ctt ?_ | refine cff ?_))
          conv => whnf
          refine ⟨[0], .v (.bool false), [.row o e ock (l.map orow)], ?_⟩
          repeat ((conv => whnf); (first | refine Cnd.yes ?_ | refine Cnd.no ?_ | refine And.intro rfl ?_ | refine aom ?_ | refine Alt.std ?_ | (show Ko_ _ _ _ _; subst hKo_)))
          conv => whnf
          exact hK
        · repeat ((conv => whnf); (first | refine Cnd.yes ?_ | refine Cnd.no ?_ | refine And.intro rfl ?_ | refine aom ?_ | refine Alt.std ?_ | (show Ko_ _ _ _ _; subst hKo_) | refine ctt ?_ | refine cff ?_))
          conv => whnf
          (refine ⟨(fun s : Nat => (hang x).length - s) (j + 1), [0, 1, 2], tmk 123 0 ((fun s : Nat => [(0, .slc 0 13 0 l.length), (1, .v (.int .i64 i)), (2, .v (.int .i64 pair)), (6, .v (.bool false)), (7, .ptr 1 0 0 0), (21, .slc 2 1 0 (hang x).length), (22, .v (.int .i64 (hang x).length)), (23, .v (.int .i64 s))]) (j + 1)), (fun s : Nat => [Ent.row o e ock (l.map orow), .cells 38 (osv x), .row true 3 [.int .i64] (x.da.map irow ++ x.dd.map irow ++ x.dc.map irow)]) (j + 1), ?_, ?_⟩; focus (first | (simp only []; omega) | omega))
          repeat ((conv => whnf); (first | refine Cnd.yes ?_ | refine Cnd.no ?_ | refine And.intro rfl ?_ | refine aom ?_ | refine Alt.std ?_ | (show Ko_ _ _ _ _; subst hKo_)))
          conv => whnf
          exact ⟨j + 1, ⟨hjn, fun q hq => by rcases Nat.lt_succ_iff_lt_or_eq.1 hq with h | h; exact hall _ h; rw [h, decide_eq_true (by omega), decide_eq_true (by omega)]; rfl⟩, rfl, rfl, (tmkK_eq _ _ _ _).mpr rfl, rfl⟩
    · obtain rfl : j = (hang x).length := by have := of_decide_eq_false hge; omega
      have hyes : depOK x i = true := all_get hall
      rw [hyes, Bool.true_and] at hK
      by_cases h1 : x.k < 1
      · have hf : formB x = false := by unfold formB; rw [if_pos (.inl h1)]
        rw [hf, Bool.false_and] at hK
        repeat ((conv => whnf); (first | refine Cnd.yes ?_ | refine Cnd.no ?_ | refine And.intro rfl ?_ | refine aom ?_ | refine Alt.std ?_ | (show Ko_ _ _ _ _; subst hKo_) | refine ctt ?_ | refine cff ?_))
        conv => whnf
        refine ⟨[0], .v (.bool false), [.row o e ock (l.map orow)], ?_⟩
        repeat ((conv => whnf); (first | refine Cnd.yes ?_ | refine Cnd.no ?_ | refine And.intro rfl ?_ | refine aom ?_ | refine Alt.std ?_ | (show Ko_ _ _ _ _; subst hKo_)))
        conv => whnf
        exact hK
      by_cases h2 : 4 < x.k
      · have hf : formB x = false := by unfold formB; rw [if_pos (.inr h2)]
        rw [hf, Bool.false_and] at hK
        repeat ((conv => whnf); (first | refine Cnd.yes ?_ | refine Cnd.no ?_ | refine And.intro rfl ?_ | refine aom ?_ | refine Alt.std ?_ | (show Ko_ _ _ _ _; subst hKo_) | refine ctt ?_ | refine cff ?_))
        conv => whnf
        refine ⟨[0], .v (.bool false), [.row o e ock (l.map orow)], ?_⟩
        repeat ((conv => whnf); (first | refine Cnd.yes ?_ | refine Cnd.no ?_ | refine And.intro rfl ?_ | refine aom ?_ | refine Alt.std ?_ | (show Ko_ _ _ _ _; subst hKo_)))
        conv => whnf
        exact hK
      by_cases h4 : x.k = 4
      · have hf : formB x = (decide (x.sz = 0) && !x.pr) := by unfold formB; rw [if_neg (by omega), if_pos h4]
        rw [hf, decide_eq_true h4, Bool.true_or, Bool.true_or, Bool.true_or, Bool.and_true] at hK
        by_cases hs : x.sz = 0
        · rw [decide_eq_true hs, Bool.true_and] at hK
          repeat ((conv => whnf); (first | refine Cnd.yes ?_ | refine Cnd.no ?_ | refine And.intro rfl ?_ | refine aom ?_ | refine Alt.std ?_ | (show Ko_ _ _ _ _; subst hKo_) | refine ctt ?_ | refine cff ?_))
          conv => whnf
          refine ⟨[0], .v (.bool (!x.pr)), [.row o e ock (l.map orow)], ?_⟩
          repeat ((conv => whnf); (first | refine Cnd.yes ?_ | refine Cnd.no ?_ | refine And.intro rfl ?_ | refine aom ?_ | refine Alt.std ?_ | (show Ko_ _ _ _ _; subst hKo_)))
          conv => whnf
          exact hK
        · rw [decide_eq_false hs, Bool.false_and] at hK
          repeat ((conv => whnf); (first | refine Cnd.yes ?_ | refine Cnd.no ?_ | refine And.intro rfl ?_ | refine aom ?_ | refine Alt.std ?_ | (show Ko_ _ _ _ _; subst hKo_) | refine ctt ?_ | refine cff ?_))
          conv => whnf
          refine ⟨[0], .v (.bool false), [.row o e ock (l.map orow)], ?_⟩
          repeat ((conv => whnf); (first | refine Cnd.yes ?_ | refine Cnd.no ?_ | refine And.intro rfl ?_ | refine aom ?_ | refine Alt.std ?_ | (show Ko_ _ _ _ _; subst hKo_)))
          conv => whnf
          exact hK
      by_cases hs : x.sz = 1 ∨ x.sz = 2 ∨ x.sz = 4
      case neg =>
        have hf : formB x = false := by unfold formB; rw [if_neg (by omega), if_neg h4, if_pos (.inl (by omega))]
        rw [hf, Bool.false_and] at hK
        repeat ((conv => whnf); (first | refine Cnd.yes ?_ | refine Cnd.no ?_ | refine And.intro rfl ?_ | refine aom ?_ | refine Alt.std ?_ | (show Ko_ _ _ _ _; subst hKo_) | refine ctt ?_ | refine cff ?_))
        conv => whnf
        refine ⟨[0], .v (.bool false), [.row o e ock (l.map orow)], ?_⟩
        repeat ((conv => whnf); (first | refine Cnd.yes ?_ | refine Cnd.no ?_ | refine And.intro rfl ?_ | refine aom ?_ | refine Alt.std ?_ | (show Ko_ _ _ _ _; subst hKo_)))
        conv => whnf
        exact hK
      have hw := wrap_sz hs
      by_cases hr : x.ad.tmod x.sz = 0
      case neg =>
        have hf : formB x = false := by unfold formB; rw [if_neg (by omega), if_neg h4, if_pos (.inr hr)]
        have hr' : x.ad.tmod (IntKind.u32.wrap x.sz) ≠ 0 := by rw [hw]; exact hr
        rw [hf, Bool.false_and] at hK
        rcases hs with hs | hs | hs
        · repeat ((conv => whnf); (first | refine Cnd.yes ?_ | refine Cnd.no ?_ | refine And.intro rfl ?_ | refine aom ?_ | refine Alt.std ?_ | (show Ko_ _ _ _ _; subst hKo_) | refine ctt ?_ | refine cff ?_))
          conv => whnf
          refine ⟨[0], .v (.bool false), [.row o e ock (l.map orow)], ?_⟩
          repeat ((conv => whnf); (first | refine Cnd.yes ?_ | refine Cnd.no ?_ | refine And.intro rfl ?_ | refine aom ?_ | refine Alt.std ?_ | (show Ko_ _ _ _ _; subst hKo_)))
          conv => whnf
          exact hK
        · repeat ((conv => whnf); (first | refine Cnd.yes ?_ | refine Cnd.no ?_ | refine And.intro rfl ?_ | refine aom ?_ | refine Alt.std ?_ | (show Ko_ _ _ _ _; subst hKo_) | refine ctt ?_ | refine cff ?_))
          conv => whnf
          refine ⟨[0], .v (.bool false), [.row o e ock (l.map orow)], ?_⟩
          repeat ((conv => whnf); (first | refine Cnd.yes ?_ | refine Cnd.no ?_ | refine And.intro rfl ?_ | refine aom ?_ | refine Alt.std ?_ | (show Ko_ _ _ _ _; subst hKo_)))
          conv => whnf
          exact hK
        · repeat ((conv => whnf); (first | refine Cnd.yes ?_ | refine Cnd.no ?_ | refine And.intro rfl ?_ | refine aom ?_ | refine Alt.std ?_ | (show Ko_ _ _ _ _; subst hKo_) | refine ctt ?_ | refine cff ?_))
          conv => whnf
          refine ⟨[0], .v (.bool false), [.row o e ock (l.map orow)], ?_⟩
          repeat ((conv => whnf); (first | refine Cnd.yes ?_ | refine Cnd.no ?_ | refine And.intro rfl ?_ | refine aom ?_ | refine Alt.std ?_ | (show Ko_ _ _ _ _; subst hKo_)))
          conv => whnf
          exact hK
      have hr' : x.ad.tmod (IntKind.u32.wrap x.sz) = 0 := by rw [hw]; exact hr
      have hff : formB x = if ((x.pr = true ∨ x.k = 3) ∧ x.sz ≠ 4) ∨ (x.pr = true ∧ x.k = 3) then false else true := by unfold formB; rw [if_neg (by omega), if_neg h4, if_neg (by intro h; rcases h with h | h; omega; exact h hr)]
      rw [decide_eq_false h4, Bool.false_or] at hK
      cases hpr : x.pr with
      | false =>
        rw [hpr] at hff hK
        by_cases h3 : x.k = 3 ∧ x.sz ≠ 4
        · have hf : formB x = false := by rw [hff, if_pos (.inl ⟨.inr h3.1, h3.2⟩)]
          rw [hf, Bool.false_and] at hK
          obtain ⟨h3, h34⟩ := h3
          rcases hs with hs | hs | hs
          · repeat ((conv => whnf); (first | refine Cnd.yes ?_ | refine Cnd.no ?_ | refine And.intro rfl ?_ | refine aom ?_ | refine Alt.std ?_ | (show Ko_ _ _ _ _; subst hKo_) | refine ctt ?_ | refine cff ?_))
            conv => whnf
            refine ⟨[0], .v (.bool false), [.row o e ock (l.map orow)], ?_⟩
            repeat ((conv => whnf); (first | refine Cnd.yes ?_ | refine Cnd.no ?_ | refine And.intro rfl ?_ | refine aom ?_ | refine Alt.std ?_ | (show Ko_ _ _ _ _; subst hKo_)))
            conv => whnf
            exact hK
          · repeat ((conv => whnf); (first | refine Cnd.yes ?_ | refine Cnd.no ?_ | refine And.intro rfl ?_ | refine aom ?_ | refine Alt.std ?_ | (show Ko_ _ _ _ _; subst hKo_) | refine ctt ?_ | refine cff ?_))
            conv => whnf
            refine ⟨[0], .v (.bool false), [.row o e ock (l.map orow)], ?_⟩
            repeat ((conv => whnf); (first | refine Cnd.yes ?_ | refine Cnd.no ?_ | refine And.intro rfl ?_ | refine aom ?_ | refine Alt.std ?_ | (show Ko_ _ _ _ _; subst hKo_)))
            conv => whnf
            exact hK
          · exact absurd hs h34
        · have hf : formB x = true := by rw [hff, if_neg (by intro h; rcases h with ⟨h | h, h'⟩ | ⟨h, _⟩; cases h; exact h3 ⟨h, h'⟩; cases h)]
          rw [hf, Bool.true_and, Bool.not_false, Bool.true_or, Bool.true_or] at hK
          by_cases h33 : x.k = 3
          · have hs4 : x.sz = 4 := by
              rcases Decidable.em (x.sz = 4) with h | h
              · exact h
              · exact absurd ⟨h33, h⟩ h3
            repeat ((conv => whnf); (first | refine Cnd.yes ?_ | refine Cnd.no ?_ | refine And.intro rfl ?_ | refine aom ?_ | refine Alt.std ?_ | (show Ko_ _ _ _ _; subst hKo_) | refine ctt ?_ | refine cff ?_))
            conv => whnf
            refine ⟨[0], .v (.bool true), [.row o e ock (l.map orow)], ?_⟩
            repeat ((conv => whnf); (first | refine Cnd.yes ?_ | refine Cnd.no ?_ | refine And.intro rfl ?_ | refine aom ?_ | refine Alt.std ?_ | (show Ko_ _ _ _ _; subst hKo_)))
            conv => whnf
            exact hK
          · rcases hs with hs | hs | hs
            · repeat ((conv => whnf); (first | refine Cnd.yes ?_ | refine Cnd.no ?_ | refine And.intro rfl ?_ | refine aom ?_ | refine Alt.std ?_ | (show Ko_ _ _ _ _; subst hKo_) | refine ctt ?_ | refine cff ?_))
              conv => whnf
              refine ⟨[0], .v (.bool true), [.row o e ock (l.map orow)], ?_⟩
              repeat ((conv => whnf); (first | refine Cnd.yes ?_ | refine Cnd.no ?_ | refine And.intro rfl ?_ | refine aom ?_ | refine Alt.std ?_ | (show Ko_ _ _ _ _; subst hKo_)))
              conv => whnf
              exact hK
            · repeat ((conv => whnf); (first | refine Cnd.yes ?_ | refine Cnd.no ?_ | refine And.intro rfl ?_ | refine aom ?_ | refine Alt.std ?_ | (show Ko_ _ _ _ _; subst hKo_) | refine ctt ?_ | refine cff ?_))
              conv => whnf
              refine ⟨[0], .v (.bool true), [.row o e ock (l.map orow)], ?_⟩
              repeat ((conv => whnf); (first | refine Cnd.yes ?_ | refine Cnd.no ?_ | refine And.intro rfl ?_ | refine aom ?_ | refine Alt.std ?_ | (show Ko_ _ _ _ _; subst hKo_)))
              conv => whnf
              exact hK
            · repeat ((conv => whnf); (first | refine Cnd.yes ?_ | refine Cnd.no ?_ | refine And.intro rfl ?_ | refine aom ?_ | refine Alt.std ?_ | (show Ko_ _ _ _ _; subst hKo_) | refine ctt ?_ | refine cff ?_))
              conv => whnf
              refine ⟨[0], .v (.bool true), [.row o e ock (l.map orow)], ?_⟩
              repeat ((conv => whnf); (first | refine Cnd.yes ?_ | refine Cnd.no ?_ | refine And.intro rfl ?_ | refine aom ?_ | refine Alt.std ?_ | (show Ko_ _ _ _ _; subst hKo_)))
              conv => whnf
              exact hK
      | true =>
        rw [hpr] at hff hK
        by_cases h3 : x.k = 3
        · have hf : formB x = false := by rw [hff, if_pos (.inr ⟨rfl, h3⟩)]
          rw [hf, Bool.false_and] at hK
          rcases hs with hs | hs | hs
          · repeat ((conv => whnf); (first | refine Cnd.yes ?_ | refine Cnd.no ?_ | refine And.intro rfl ?_ | refine aom ?_ | refine Alt.std ?_ | (show Ko_ _ _ _ _; subst hKo_) | refine ctt ?_ | refine cff ?_))
            conv => whnf
            refine ⟨[0], .v (.bool false), [.row o e ock (l.map orow)], ?_⟩
            repeat ((conv => whnf); (first | refine Cnd.yes ?_ | refine Cnd.no ?_ | refine And.intro rfl ?_ | refine aom ?_ | refine Alt.std ?_ | (show Ko_ _ _ _ _; subst hKo_)))
            conv => whnf
            exact hK
          · repeat ((conv => whnf); (first | refine Cnd.yes ?_ | refine Cnd.no ?_ | refine And.intro rfl ?_ | refine aom ?_ | refine Alt.std ?_ | (show Ko_ _ _ _ _; subst hKo_) | refine ctt ?_ | refine cff ?_))
            conv => whnf
            refine ⟨[0], .v (.bool false), [.row o e ock (l.map orow)], ?_⟩
            repeat ((conv => whnf); (first | refine Cnd.yes ?_ | refine Cnd.no ?_ | refine And.intro rfl ?_ | refine aom ?_ | refine Alt.std ?_ | (show Ko_ _ _ _ _; subst hKo_)))
            conv => whnf
            exact hK
          · repeat ((conv => whnf); (first | refine Cnd.yes ?_ | refine Cnd.no ?_ | refine And.intro rfl ?_ | refine aom ?_ | refine Alt.std ?_ | (show Ko_ _ _ _ _; subst hKo_) | refine ctt ?_ | refine cff ?_))
            conv => whnf
            refine ⟨[0], .v (.bool false), [.row o e ock (l.map orow)], ?_⟩
            repeat ((conv => whnf); (first | refine Cnd.yes ?_ | refine Cnd.no ?_ | refine And.intro rfl ?_ | refine aom ?_ | refine Alt.std ?_ | (show Ko_ _ _ _ _; subst hKo_)))
            conv => whnf
            exact hK
        by_cases hs4 : x.sz = 4
        case neg =>
          have hf : formB x = false := by rw [hff, if_pos (.inl ⟨.inl rfl, hs4⟩)]
          rw [hf, Bool.false_and] at hK
          rcases hs with hs | hs | hs
          · repeat ((conv => whnf); (first | refine Cnd.yes ?_ | refine Cnd.no ?_ | refine And.intro rfl ?_ | refine aom ?_ | refine Alt.std ?_ | (show Ko_ _ _ _ _; subst hKo_) | refine ctt ?_ | refine cff ?_))
            conv => whnf
            refine ⟨[0], .v (.bool false), [.row o e ock (l.map orow)], ?_⟩
            repeat ((conv => whnf); (first | refine Cnd.yes ?_ | refine Cnd.no ?_ | refine And.intro rfl ?_ | refine aom ?_ | refine Alt.std ?_ | (show Ko_ _ _ _ _; subst hKo_)))
            conv => whnf
            exact hK
          · repeat ((conv => whnf); (first | refine Cnd.yes ?_ | refine Cnd.no ?_ | refine And.intro rfl ?_ | refine aom ?_ | refine Alt.std ?_ | (show Ko_ _ _ _ _; subst hKo_) | refine ctt ?_ | refine cff ?_))
            conv => whnf
            refine ⟨[0], .v (.bool false), [.row o e ock (l.map orow)], ?_⟩
            repeat ((conv => whnf); (first | refine Cnd.yes ?_ | refine Cnd.no ?_ | refine And.intro rfl ?_ | refine aom ?_ | refine Alt.std ?_ | (show Ko_ _ _ _ _; subst hKo_)))
            conv => whnf
            exact hK
          · exact absurd hs hs4
        have hf : formB x = true := by rw [hff, if_neg (by intro h; rcases h with ⟨_, h'⟩ | ⟨_, h⟩; exact h' hs4; exact h3 h)]
        rw [hf, Bool.true_and, Bool.not_true, Bool.false_or] at hK
        repeat ((conv => whnf); (first | refine Cnd.yes ?_ | refine Cnd.no ?_ | refine And.intro rfl ?_ | refine aom ?_ | refine Alt.std ?_ | (show Ko_ _ _ _ _; subst hKo_) | refine ctt ?_ | refine cff ?_))
        conv => whnf
        intro Mr hMr
        repeat ((conv => whnf); (first | refine Cnd.yes ?_ | refine Cnd.no ?_ | refine And.intro rfl ?_ | refine aom ?_ | refine Alt.std ?_ | (show Ko_ _ _ _ _; subst hKo_) | refine ctt ?_ | refine cff ?_))
        conv => whnf
        refine ⟨x, rfl, rfl, ?_⟩
        cases hwx : wr x with
        | false =>
          rw [hwx] at hK
          repeat ((conv => whnf); (first | refine Cnd.yes ?_ | refine Cnd.no ?_ | refine And.intro rfl ?_ | refine aom ?_ | refine Alt.std ?_ | (show Ko_ _ _ _ _; subst hKo_) | refine ctt ?_ | refine cff ?_))
          conv => whnf
          refine ⟨[0], .v (.bool true), [.row o e ock (l.map orow)], ?_⟩
          repeat ((conv => whnf); (first | refine Cnd.yes ?_ | refine Cnd.no ?_ | refine And.intro rfl ?_ | refine aom ?_ | refine Alt.std ?_ | (show Ko_ _ _ _ _; subst hKo_)))
          conv => whnf
          exact hK
        | true =>
          rw [hwx, Bool.not_true, Bool.false_or] at hK
          by_cases hpn : 0 ≤ pair
          case neg =>
            rw [decide_eq_false hpn, Bool.false_and] at hK
            repeat ((conv => whnf); (first | refine Cnd.yes ?_ | refine Cnd.no ?_ | refine And.intro rfl ?_ | refine aom ?_ | refine Alt.std ?_ | (show Ko_ _ _ _ _; subst hKo_) | refine ctt ?_ | refine cff ?_))
            conv => whnf
            refine ⟨[0], .v (.bool false), [.row o e ock (l.map orow)], ?_⟩
            repeat ((conv => whnf); (first | refine Cnd.yes ?_ | refine Cnd.no ?_ | refine And.intro rfl ?_ | refine aom ?_ | refine Alt.std ?_ | (show Ko_ _ _ _ _; subst hKo_)))
            conv => whnf
            exact hK
          rw [decide_eq_true hpn, Bool.true_and] at hK
          have ep : toI (cellAt (List.map orow l) (0 + pair.toNat) (0 + 2)) = (l.getD pair.toNat default).ad := by rw [Nat.zero_add, ocell l (by omega)]; rfl
          repeat ((conv => whnf); (first | refine Cnd.yes ?_ | refine Cnd.no ?_ | refine And.intro rfl ?_ | refine aom ?_ | refine Alt.std ?_ | (show Ko_ _ _ _ _; subst hKo_) | refine ctt ?_ | refine cff ?_))
          conv => whnf
          rw [ep]
          refine ⟨[0], .v (.bool ((l.getD pair.toNat default).ad == x.ad)), [.row o e ock (l.map orow)], ?_⟩
          repeat ((conv => whnf); (first | refine Cnd.yes ?_ | refine Cnd.no ?_ | refine And.intro rfl ?_ | refine aom ?_ | refine Alt.std ?_ | (show Ko_ _ _ _ _; subst hKo_)))
          conv => whnf
          exact hK
def fairS : Vc.Spec := fun args hp M K => ∃ (o : Bool) (e : TypeId) (l : List Op) (i : Nat) (pair : Int), args = [.slc 0 13 0 l.length, .v (.int .i64 i), .v (.int .i64 pair)] ∧ hp = [.row o e ock (l.map orow)] ∧ i < l.length ∧ l.length ≤ 1000 ∧ (-1 ≤ pair ∧ pair < l.length) ∧ Deps M l ∧
  K (.v (.bool (fairB l i pair))) [.row o e ock (l.map orow)]
theorem fair_ok : SOK Tryd.prog 54 fairS := by
  refine TOK.weaken (TOK.out (runF_eq GK1_ok mixed at54.1 at54.2 pf54_eq)) fun args hp M K h => ?_
  obtain ⟨o, e, l, i, pair, rfl, rfl, h1, h2, h3, h4, h5⟩ := h
  exact fair_run M K o e l i pair _ rfl h1 h2 h3 h4 h5
end Go.Proofs.YtkfkoldaeplckaaDoor
/-
  wmo.Valid, of what is valid, walked; its contract.
-/
namespace Go.Proofs.YtkfkoldaeplckaaDoor
open Go Go.Vc
set_option maxRecDepth 100000
set_option linter.unusedSimpArgs false
set_option linter.unusedVariables false
set_option maxHeartbeats 4000000
/-- Harts: each the value of its operations' list, and these. -/
abbrev Hs := List (Value × List Op)
def hrow (p : Value × List Op) : List Value := [p.1]
instance : Inhabited (Value × List Op) := ⟨(nilV, [])⟩
structure HIn (M : HL) (H : Hs) : Prop where
  r : ∀ p ∈ H, ∃ e, Vc.RowsIn M e ock p.1 (p.2.map orow)
  d : ∀ p ∈ H, Deps M p.2
theorem HIn.mono {M M' : HL} {H : Hs} (h : HIn M H) (hM : FLe M M') : HIn M' H := ⟨fun p hp => (h.r p hp).imp fun _ h => h.mono hM, fun p hp => (h.d p hp).mono hM⟩
def totN (H : Hs) (n : Nat) : Nat := ((H.take n).map fun p => p.2.length).sum
theorem totN_next {H : Hs} {n : Nat} (hn : n < H.length) : totN H (n + 1) = totN H n + (H.getD n default).2.length := by
  unfold totN
  rw [← List.take_append_getElem hn, List.map_append, List.sum_append]
  simp only [List.map_cons, List.map_nil, List.sum_cons, List.sum_nil, List.getD, List.getElem?_eq_getElem hn, Option.getD_some, Nat.add_zero]
theorem totN_le {H : Hs} {c : Nat} (hc : ∀ p ∈ H, p.2.length ≤ c) : ∀ n, n ≤ H.length → totN H n ≤ n * c := fun n => by
  induction n with
  | zero => intro _; simp [totN]
  | succ n ih =>
    intro hn
    rw [totN_next hn, Nat.succ_mul]
    have h1 := ih (by omega)
    have h2 := hc (H.getD n default) (by simp [List.getD, show n < H.length by omega])
    omega
theorem hcell (H : Hs) {j : Nat} (hj : j < H.length) : cellAt (H.map hrow) j 0 = (H.getD j default).1 := by
  simp [cellAt, List.getD, hj, hrow]
structure ValidH (H : Hs) : Prop where
  n : H.length ≤ 64
  t : totN H H.length ≤ 20000
  c : ∀ p ∈ H, p.2.length ≤ 1000
  f : ∀ p ∈ H, ∀ i, i < p.2.length → fairB p.2 i (pairN p.2 i) = true
theorem pairs_get {l : List Op} {i : Nat} (hi : i < l.length) : (pairsL l).getD i 0 = pairN l i := by simp [pairsL, List.getD, hi]
theorem pairN_rng (l : List Op) (i : Nat) (hi : i < l.length) : -1 ≤ pairN l i ∧ pairN l i < l.length := by
  have := lastN_lt l i
  unfold pairN
  split <;> omega
noncomputable def specsL1 : Nat → Option Vc.Trans := tget [(53, openAtG (frameT pairsS) 0), (54, openAtG (frameT fairS) 0)]
noncomputable def GL1 : Nat → Option Vc.Trans := tabG specsL1 (tget tab) 5
theorem GL1_ok : GOK Tryd.prog GL1 := tabG_ok (GOK.cons (openAtG_ok (frame_ok pairs_ok) 0) (GOK.cons (openAtG_ok (frame_ok fair_ok) 0) .nil)) tab_ok 5
theorem valid_run (M : HL) (K : SV → List Ent → HL → Prop) (o : Bool) (e : TypeId) (H : Hs) (hH : HIn M H) (hV : ValidH H) (hK : K (.v .nilIface) [.row o e [.sl] (H.map hrow)] M) :
    runF GL1 pf34 [.slc 0 1 0 H.length] [.row o e [.sl] (H.map hrow)] M fun v hp2 M2 => ∃ m v' hp', Wk (llen [Ent.row o e [.sl] (H.map hrow)]) m [v] hp2 [v'] hp' (K v' hp' M2) := by
  obtain ⟨hn, ht, hc, hf⟩ := hV
  have htl := totN_le hc
  have ht0 : totN H 0 = 0 := by simp [totN]
  repeat ((conv => whnf); (first | refine Cnd.yes ?_ | refine Cnd.no ?_ | refine And.intro rfl ?_ | refine aom ?_ | refine Alt.std ?_ | (show Ko_ _ _ _ _; subst hKo_) | refine ctt ?_ | refine cff ?_))
  conv => whnf
  refine ⟨InvS 59 (fun s : Nat => H.length - s) (fun s : Nat => s ≤ H.length) (fun s : Nat => [(0, .slc 0 1 0 H.length), (2, .v .nilIface), (3, .v (.int .i64 (totN H s))), (10, .slc 0 1 0 H.length), (11, .v (.int .i64 H.length)), (12, .v (.int .i64 s))]) (fun s : Nat => [Ent.row o e [.sl] (H.map hrow)]) M, ⟨(fun s : Nat => H.length - s) 0, [0], tmk 59 0 ((fun s : Nat => [(0, .slc 0 1 0 H.length), (2, .v .nilIface), (3, .v (.int .i64 (totN H s))), (10, .slc 0 1 0 H.length), (11, .v (.int .i64 H.length)), (12, .v (.int .i64 s))]) 0), (fun s : Nat => [Ent.row o e [.sl] (H.map hrow)]) 0, ?_⟩, ?_⟩
  · repeat ((conv => whnf); (first | refine Cnd.yes ?_ | refine Cnd.no ?_ | refine And.intro rfl ?_ | refine aom ?_ | refine Alt.std ?_ | (show Ko_ _ _ _ _; subst hKo_)))
    conv => whnf
    exact ⟨0, Nat.zero_le _, rfl, rfl, (tmkK_eq _ _ _ _).mpr rfl, rfl⟩
  · rintro Ko_ hKo_ cnt tm hp M1 ⟨i, hC_, rfl, rfl, htm, hhp_⟩
    replace hC_ : i ≤ H.length := hC_
    have hi := hC_
    replace htm : tmkK 59 0 [(0, .slc 0 1 0 H.length), (2, .v .nilIface), (3, .v (.int .i64 (totN H i))), (10, .slc 0 1 0 H.length), (11, .v (.int .i64 H.length)), (12, .v (.int .i64 i))] (fun l => tm = l) := htm
    conv at htm => whnf
    subst htm
    replace hhp_ : hp = [Ent.row o e [.sl] (H.map hrow)] := hhp_
    subst hhp_
    repeat ((conv => whnf); (first | refine Cnd.yes ?_ | refine Cnd.no ?_ | refine And.intro rfl ?_ | refine aom ?_ | refine Alt.std ?_ | (show Ko_ _ _ _ _; subst hKo_) | refine ctt ?_ | refine cff ?_))
    conv => whnf
    refine Cnd.mk (fun hlt => ?_) fun hge => ?_
    · have hin : i < H.length := by have := of_decide_eq_true hlt; omega
      have hmem : H.getD i default ∈ H := by simp [List.getD, hin]
      obtain ⟨e1, hR⟩ := hH.r _ hmem
      have hyl := hR.len
      rw [List.length_map] at hyl
      have hcl := hc _ hmem
      have c0 : slen (cellAt (H.map hrow) (0 + (i : Int).toNat) 0) = (H.getD i default).2.length := by rw [Nat.zero_add, Int.toNat_natCast, hcell H hin]; exact hyl
      have hnx := totN_next hin
      have hti := htl i hi
      repeat ((conv => whnf); (first | refine Cnd.yes ?_ | refine Cnd.no ?_ | refine And.intro rfl ?_ | refine aom ?_ | refine Alt.std ?_ | (show Ko_ _ _ _ _; subst hKo_) | refine ctt ?_ | refine cff ?_))
      conv => whnf
      rw [c0]
      repeat ((conv => whnf); (first | refine Cnd.yes ?_ | refine Cnd.no ?_ | refine And.intro rfl ?_ | refine aom ?_ | refine Alt.std ?_ | (show Ko_ _ _ _ _; subst hKo_) | refine ctt ?_ | refine cff ?_))
      conv => whnf
      (refine ⟨(fun s : Nat => H.length - s) (i + 1), [0], tmk 59 0 ((fun s : Nat => [(0, .slc 0 1 0 H.length), (2, .v .nilIface), (3, .v (.int .i64 (totN H s))), (10, .slc 0 1 0 H.length), (11, .v (.int .i64 H.length)), (12, .v (.int .i64 s))]) (i + 1)), (fun s : Nat => [Ent.row o e [.sl] (H.map hrow)]) (i + 1), ?_, ?_⟩; focus (first | (simp only []; omega) | omega))
      repeat ((conv => whnf); (first | refine Cnd.yes ?_ | refine Cnd.no ?_ | refine And.intro rfl ?_ | refine aom ?_ | refine Alt.std ?_ | (show Ko_ _ _ _ _; subst hKo_)))
      conv => whnf
      exact ⟨i + 1, hin, rfl, rfl, (tmkK_eq _ _ _ _).mpr rfl, rfl⟩
    · obtain rfl : i = H.length := by have := of_decide_eq_false hge; omega
      have hl64 := htl _ (Nat.le_refl _)
      repeat ((conv => whnf); (first | refine Cnd.yes ?_ | refine Cnd.no ?_ | refine And.intro rfl ?_ | refine aom ?_ | refine Alt.std ?_ | (show Ko_ _ _ _ _; subst hKo_) | refine ctt ?_ | refine cff ?_))
      conv => whnf
      refine ⟨InvS 59 (fun s : Nat => H.length - s) (fun s : Nat => s ≤ H.length) (fun s : Nat => [(0, .slc 0 1 0 H.length), (2, .v .nilIface), (3, .v (.int .i64 (totN H s))), (29, .slc 0 1 0 H.length), (30, .v (.int .i64 H.length)), (31, .v (.int .i64 s))]) (fun s : Nat => [Ent.row o e [.sl] (H.map hrow)]) M1, ⟨(fun s : Nat => H.length - s) 0, [0], tmk 59 0 ((fun s : Nat => [(0, .slc 0 1 0 H.length), (2, .v .nilIface), (3, .v (.int .i64 (totN H s))), (29, .slc 0 1 0 H.length), (30, .v (.int .i64 H.length)), (31, .v (.int .i64 s))]) 0), (fun s : Nat => [Ent.row o e [.sl] (H.map hrow)]) 0, ?_⟩, ?_⟩
      · repeat ((conv => whnf); (first | refine Cnd.yes ?_ | refine Cnd.no ?_ | refine And.intro rfl ?_ | refine aom ?_ | refine Alt.std ?_ | (show Ko_ _ _ _ _; subst hKo_)))
        conv => whnf
        exact ⟨0, Nat.zero_le _, rfl, rfl, (tmkK_eq _ _ _ _).mpr rfl, rfl⟩
      · rintro Ko_ hKo_ cnt tm hp M1 ⟨i, hC_, rfl, rfl, htm, hhp_⟩
        replace hC_ : i ≤ H.length := hC_
        have hi := hC_
        replace htm : tmkK 59 0 [(0, .slc 0 1 0 H.length), (2, .v .nilIface), (3, .v (.int .i64 (totN H i))), (29, .slc 0 1 0 H.length), (30, .v (.int .i64 H.length)), (31, .v (.int .i64 i))] (fun l => tm = l) := htm
        conv at htm => whnf
        subst htm
        replace hhp_ : hp = [Ent.row o e [.sl] (H.map hrow)] := hhp_
        subst hhp_
        repeat ((conv => whnf); (first | refine Cnd.yes ?_ | refine Cnd.no ?_ | refine And.intro rfl ?_ | refine aom ?_ | refine Alt.std ?_ | (show Ko_ _ _ _ _; subst hKo_) | refine ctt ?_ | refine cff ?_))
        conv => whnf
        refine Cnd.mk (fun hlt => ?_) fun hge => ?_
        · have hin : i < H.length := by have := of_decide_eq_true hlt; omega
          have hmem : H.getD i default ∈ H := by simp [List.getD, hin]
          obtain ⟨e1, hR⟩ := hH.r _ hmem
          have hD := hH.d _ hmem
          have hyl := hR.len
          rw [List.length_map] at hyl
          have hcl := hc _ hmem
          have hfl := hf _ hmem
          have c0 : cellAt (H.map hrow) (0 + (i : Int).toNat) 0 = (H.getD i default).1 := by rw [Nat.zero_add, Int.toNat_natCast, hcell H hin]
          have hnx := totN_next hin
          have hti := htl i hi
          repeat ((conv => whnf); (first | refine Cnd.yes ?_ | refine Cnd.no ?_ | refine And.intro rfl ?_ | refine aom ?_ | refine Alt.std ?_ | (show Ko_ _ _ _ _; subst hKo_) | refine ctt ?_ | refine cff ?_))
          conv => whnf
          rw [c0]
          generalize H.getD i default = p at *
          obtain ⟨y, l⟩ := p
          dsimp only at *
          refine ⟨y, e1, ock, l.map orow, rfl, hR, ?_⟩
          repeat ((conv => whnf); (first | refine Cnd.yes ?_ | refine Cnd.no ?_ | refine And.intro rfl ?_ | refine aom ?_ | refine Alt.std ?_ | (show Ko_ _ _ _ _; subst hKo_) | refine ctt ?_ | refine cff ?_))
          conv => whnf
          refine ⟨false, e1, l, by rw [List.length_map]; rfl, rfl, hcl, ?_⟩
          have hpl : (pairsL l).length = l.length := by simp [pairsL]
          rw [hpl]
          repeat ((conv => whnf); (first | refine Cnd.yes ?_ | refine Cnd.no ?_ | refine And.intro rfl ?_ | refine aom ?_ | refine Alt.std ?_ | (show Ko_ _ _ _ _; subst hKo_) | refine ctt ?_ | refine cff ?_))
          conv => whnf
          rw [hyl]
          refine ⟨InvS 59 (fun s : Nat => l.length - s) (fun s : Nat => s ≤ l.length) (fun s : Nat => [(0, .slc 0 1 0 H.length), (2, .v .nilIface), (3, .v (.int .i64 (totN H i + s : Nat))), (7, .rsl y), (8, .slc 1 1 0 l.length), (29, .slc 0 1 0 H.length), (30, .v (.int .i64 H.length)), (31, .v (.int .i64 i)), (38, .v (.int .i64 l.length)), (39, .v (.int .i64 s))]) (fun s : Nat => [Ent.row o e [.sl] (H.map hrow), .row true 3 [.int .i64] ((pairsL l).map irow)]) M1, ⟨(fun s : Nat => l.length - s) 0, [0, 2], tmk 59 0 ((fun s : Nat => [(0, .slc 0 1 0 H.length), (2, .v .nilIface), (3, .v (.int .i64 (totN H i + s : Nat))), (7, .rsl y), (8, .slc 1 1 0 l.length), (29, .slc 0 1 0 H.length), (30, .v (.int .i64 H.length)), (31, .v (.int .i64 i)), (38, .v (.int .i64 l.length)), (39, .v (.int .i64 s))]) 0), (fun s : Nat => [Ent.row o e [.sl] (H.map hrow), .row true 3 [.int .i64] ((pairsL l).map irow)]) 0, ?_⟩, ?_⟩
          · repeat ((conv => whnf); (first | refine Cnd.yes ?_ | refine Cnd.no ?_ | refine And.intro rfl ?_ | refine aom ?_ | refine Alt.std ?_ | (show Ko_ _ _ _ _; subst hKo_)))
            conv => whnf
            exact ⟨0, Nat.zero_le _, rfl, rfl, (tmkK_eq _ _ _ _).mpr rfl, rfl⟩
          · rintro Ko_ hKo_ cnt tm hp M1 ⟨j, hC_, rfl, rfl, htm, hhp_⟩
            replace hC_ : j ≤ l.length := hC_
            have hj := hC_
            replace htm : tmkK 59 0 [(0, .slc 0 1 0 H.length), (2, .v .nilIface), (3, .v (.int .i64 (totN H i + j : Nat))), (7, .rsl y), (8, .slc 1 1 0 l.length), (29, .slc 0 1 0 H.length), (30, .v (.int .i64 H.length)), (31, .v (.int .i64 i)), (38, .v (.int .i64 l.length)), (39, .v (.int .i64 j))] (fun l => tm = l) := htm
            conv at htm => whnf
            subst htm
            replace hhp_ : hp = [Ent.row o e [.sl] (H.map hrow), .row true 3 [.int .i64] ((pairsL l).map irow)] := hhp_
            subst hhp_
            repeat ((conv => whnf); (first | refine Cnd.yes ?_ | refine Cnd.no ?_ | refine And.intro rfl ?_ | refine aom ?_ | refine Alt.std ?_ | (show Ko_ _ _ _ _; subst hKo_) | refine ctt ?_ | refine cff ?_))
            conv => whnf
            refine Cnd.mk (fun hlt => ?_) fun hge => ?_
            · have hjn : j < l.length := by have := of_decide_eq_true hlt; omega
              have ep : toI (cellAt ((pairsL l).map irow) (0 + (j : Int).toNat) 0) = pairN l j := by rw [toI_i (by omega), pairs_get hjn]
              have hpr := pairN_rng l j hjn
              repeat ((conv => whnf); (first | refine Cnd.yes ?_ | refine Cnd.no ?_ | refine And.intro rfl ?_ | refine aom ?_ | refine Alt.std ?_ | (show Ko_ _ _ _ _; subst hKo_) | refine ctt ?_ | refine cff ?_))
              conv => whnf
              rw [ep]
              repeat ((conv => whnf); (first | refine Cnd.yes ?_ | refine Cnd.no ?_ | refine And.intro rfl ?_ | refine aom ?_ | refine Alt.std ?_ | (show Ko_ _ _ _ _; subst hKo_) | refine ctt ?_ | refine cff ?_))
              conv => whnf
              refine ⟨y, e1, ock, l.map orow, rfl, hR, ?_⟩
              repeat ((conv => whnf); (first | refine Cnd.yes ?_ | refine Cnd.no ?_ | refine And.intro rfl ?_ | refine aom ?_ | refine Alt.std ?_ | (show Ko_ _ _ _ _; subst hKo_) | refine ctt ?_ | refine cff ?_))
              conv => whnf
              refine ⟨false, e1, l, j, pairN l j, by rw [List.length_map]; rfl, rfl, hjn, hcl, hpr, hD, ?_⟩
              rw [hfl j hjn]
              repeat ((conv => whnf); (first | refine Cnd.yes ?_ | refine Cnd.no ?_ | refine And.intro rfl ?_ | refine aom ?_ | refine Alt.std ?_ | (show Ko_ _ _ _ _; subst hKo_) | refine ctt ?_ | refine cff ?_))
              conv => whnf
              (refine ⟨(fun s : Nat => l.length - s) (j + 1), [0, 1], tmk 59 0 ((fun s : Nat => [(0, .slc 0 1 0 H.length), (2, .v .nilIface), (3, .v (.int .i64 (totN H i + s : Nat))), (7, .rsl y), (8, .slc 1 1 0 l.length), (29, .slc 0 1 0 H.length), (30, .v (.int .i64 H.length)), (31, .v (.int .i64 i)), (38, .v (.int .i64 l.length)), (39, .v (.int .i64 s))]) (j + 1)), (fun s : Nat => [Ent.row o e [.sl] (H.map hrow), .row true 3 [.int .i64] ((pairsL l).map irow)]) (j + 1), ?_, ?_⟩; focus (first | (simp only []; omega) | omega))
              repeat ((conv => whnf); (first | refine Cnd.yes ?_ | refine Cnd.no ?_ | refine And.intro rfl ?_ | refine aom ?_ | refine Alt.std ?_ | (show Ko_ _ _ _ _; subst hKo_)))
              conv => whnf
              exact ⟨j + 1, hjn, rfl, rfl, (tmkK_eq _ _ _ _).mpr rfl, rfl⟩
            · obtain rfl : j = l.length := by have := of_decide_eq_false hge; omega
              repeat ((conv => whnf); (first | refine Cnd.yes ?_ | refine Cnd.no ?_ | refine And.intro rfl ?_ | refine aom ?_ | refine Alt.std ?_ | (show Ko_ _ _ _ _; subst hKo_) | refine ctt ?_ | refine cff ?_))
              conv => whnf
              (refine ⟨(fun s : Nat => H.length - s) (i + 1), [0], tmk 59 0 ((fun s : Nat => [(0, .slc 0 1 0 H.length), (2, .v .nilIface), (3, .v (.int .i64 (totN H s))), (29, .slc 0 1 0 H.length), (30, .v (.int .i64 H.length)), (31, .v (.int .i64 s))]) (i + 1)), (fun s : Nat => [Ent.row o e [.sl] (H.map hrow)]) (i + 1), ?_, ?_⟩; focus (first | (simp only []; omega) | omega))
              repeat ((conv => whnf); (first | refine Cnd.yes ?_ | refine Cnd.no ?_ | refine And.intro rfl ?_ | refine aom ?_ | refine Alt.std ?_ | (show Ko_ _ _ _ _; subst hKo_)))
              conv => whnf
              exact ⟨i + 1, hin, rfl, rfl, (tmkK_eq _ _ _ _).mpr rfl, rfl⟩
        · obtain rfl : i = H.length := by have := of_decide_eq_false hge; omega
          repeat ((conv => whnf); (first | refine Cnd.yes ?_ | refine Cnd.no ?_ | refine And.intro rfl ?_ | refine aom ?_ | refine Alt.std ?_ | (show Ko_ _ _ _ _; subst hKo_) | refine ctt ?_ | refine cff ?_))
          conv => whnf
          refine ⟨[0], .v .nilIface, [.row o e [.sl] (H.map hrow)], ?_⟩
          repeat ((conv => whnf); (first | refine Cnd.yes ?_ | refine Cnd.no ?_ | refine And.intro rfl ?_ | refine aom ?_ | refine Alt.std ?_ | (show Ko_ _ _ _ _; subst hKo_)))
          conv => whnf
          exact hK
def validS : Vc.Spec := fun args hp M K => ∃ (o : Bool) (e : TypeId) (H : Hs), args = [.slc 0 1 0 H.length] ∧ hp = [.row o e [.sl] (H.map hrow)] ∧ HIn M H ∧ ValidH H ∧ K (.v .nilIface) [.row o e [.sl] (H.map hrow)]
theorem valid_ok : SOK Tryd.prog 34 validS := by
  refine TOK.weaken (TOK.out (runF_eq GL1_ok mixed at34.1 at34.2 pf34_eq)) fun args hp M K h => ?_
  obtain ⟨o, e, H, rfl, rfl, h1, h2, h3⟩ := h
  exact valid_run M K o e H h1 h2 h3
end Go.Proofs.YtkfkoldaeplckaaDoor
/-
  The checker's memory; op, source, walked; their contracts.
-/
namespace Go.Proofs.YtkfkoldaeplckaaDoor
open Go Go.Vc
set_option maxRecDepth 100000
set_option linter.unusedSimpArgs false
set_option linter.unusedVariables false
set_option maxHeartbeats 4000000
abbrev Rf := Int × Int
def rrow (p : Rf) : List Value := [.int .i64 p.1, .int .i64 p.2]
def vrow (y : Value) : List Value := [y]
def brow (x : Int) : List Value := [.int .u8 x]
/-- All that a checker reaches. -/
def chk (o : Bool) (eh eo eb : TypeId) (H : Hs) (O : List Rf) (P Q : List Value) (r1 r2 : Nat) (N1 N2 : HL) (bl : List Int) : List Ent := [
  cellsB o 80 [.slc 1 1 0 H.length, .slc 2 2 0 O.length, .slc 3 1 0 P.length, .slc 4 1 0 Q.length, .via 5 (.map (some r1)), .via 6 (.map (some r2)), .fn (.func 33) [] [.ptr 7 0 0 0]],
  .row o eh [.sl] (H.map hrow), .row o eo [.int .i64, .int .i64] (O.map rrow), .row o 23 [.sl] (P.map vrow), .row o 23 [.sl] (Q.map vrow), .sub o N1, .sub o N2,
  cellsB o 72 [.slc 8 1 0 bl.length], .row o eb [.int .u8] (bl.map brow)]
def opAt (H : Hs) (r : Rf) : Op := (H.getD r.1.toNat default).2.getD r.2.toNat default
def RefOK (H : Hs) (r : Rf) : Prop := 0 ≤ r.1 ∧ r.1 < H.length ∧ 0 ≤ r.2 ∧ r.2 < (H.getD r.1.toNat default).2.length
theorem rcell0 (O : List Rf) {j : Nat} (hj : j < O.length) : toI (cellAt (O.map rrow) j 0) = (O.getD j (0, 0)).1 := by
  simp [cellAt, List.getD, hj, rrow, toI]
theorem rcell1 (O : List Rf) {j : Nat} (hj : j < O.length) : toI (cellAt (O.map rrow) j 1) = (O.getD j (0, 0)).2 := by
  simp [cellAt, List.getD, hj, rrow, toI]
theorem op_runT (M : HL) (K : SV → List Ent → HL → Prop) (eh eo eb : TypeId) (H : Hs) (O : List Rf) (P Q : List Value) (r1 r2 : Nat) (N1 N2 : HL) (bl : List Int) (p : Nat) (hH : HIn M H) (hp : p < O.length) (hr : RefOK H (O.getD p (0, 0)))
    (hK : K (.agg (osv (opAt H (O.getD p (0, 0))))) (chk true eh eo eb H O P Q r1 r2 N1 N2 bl) M) :
    runF G0 pf55 [.ptr 0 0 0 0, .v (.int .i64 p)] (chk true eh eo eb H O P Q r1 r2 N1 N2 bl) M fun v hp2 M2 => ∃ m v' hp', Wk (llen (chk true eh eo eb H O P Q r1 r2 N1 N2 bl)) m [v] hp2 [v'] hp' (K v' hp' M2) := by
  have e0 : toI (cellAt (O.map rrow) (0 + (p : Int).toNat) (0 + 0)) = (O.getD p (0, 0)).1 := by rw [Nat.zero_add, Int.toNat_natCast]; exact rcell0 O hp
  have e1 : toI (cellAt (O.map rrow) (0 + (p : Int).toNat) (0 + 1)) = (O.getD p (0, 0)).2 := by rw [Nat.zero_add, Int.toNat_natCast]; exact rcell1 O hp
  unfold opAt at hK
  generalize O.getD p (0, 0) = r at *
  obtain ⟨h0, h1, h2, h3⟩ := hr
  have hin : r.1.toNat < H.length := by omega
  have hmem : H.getD r.1.toNat default ∈ H := by simp [List.getD, hin]
  obtain ⟨e1', hR⟩ := hH.r _ hmem
  have c0 : cellAt (H.map hrow) (0 + r.1.toNat) 0 = (H.getD r.1.toNat default).1 := by rw [Nat.zero_add, hcell H hin]
  have hyl := hR.len
  rw [List.length_map] at hyl
  obtain ⟨x, hx⟩ : ∃ x, (H.getD r.1.toNat default).2.getD r.2.toNat default = x := ⟨_, rfl⟩
  rw [hx] at hK
  generalize H.getD r.1.toNat default = pl at *
  obtain ⟨y, l⟩ := pl
  dsimp only at *
  repeat ((conv => whnf); (first | refine Cnd.yes ?_ | refine Cnd.no ?_ | refine And.intro rfl ?_ | refine aom ?_ | refine Alt.std ?_ | (show Ko_ _ _ _ _; subst hKo_) | refine ctt ?_ | refine cff ?_))
  conv => whnf
  rw [e0, e1, c0, hyl]
  repeat ((conv => whnf); (first | refine Cnd.yes ?_ | refine Cnd.no ?_ | refine And.intro rfl ?_ | refine aom ?_ | refine Alt.std ?_ | (show Ko_ _ _ _ _; subst hKo_) | refine ctt ?_ | refine cff ?_))
  conv => whnf
  refine ⟨e1', ock, l.map orow, .inr (.inr hR), ?_⟩
  repeat ((conv => whnf); (first | refine Cnd.yes ?_ | refine Cnd.no ?_ | refine And.intro rfl ?_ | refine aom ?_ | refine Alt.std ?_ | (show Ko_ _ _ _ _; subst hKo_) | refine ctt ?_ | refine cff ?_))
  conv => whnf
  have hx1 : l.getD (0 + r.2.toNat) default = x := by rw [Nat.zero_add]; exact hx
  have hll : r.2.toNat < l.length := by omega
  have c0 : toI (cellAt (List.map orow l) r.2.toNat 0) = Op.k x := by rw [ocell l hll, hx]; rfl
  have c1 : toI (cellAt (List.map orow l) r.2.toNat (0 + 1)) = Op.sz x := by rw [ocell l hll, hx]; rfl
  have c2 : toI (cellAt (List.map orow l) r.2.toNat (0 + 1 + 1)) = Op.ad x := by rw [ocell l hll, hx]; rfl
  have c3 : toI (cellAt (List.map orow l) r.2.toNat (0 + 1 + 1 + 1)) = Op.v x := by rw [ocell l hll, hx]; rfl
  have c4 : toI (cellAt (List.map orow l) r.2.toNat (0 + 1 + 1 + 1 + 1)) = Op.g x := by rw [ocell l hll, hx]; rfl
  have c5 : toB (cellAt (List.map orow l) r.2.toNat (0 + 1 + 1 + 1 + 1 + 1)) = Op.pr x := by rw [ocell l hll, hx]; rfl
  have c6 : toB (cellAt (List.map orow l) r.2.toNat (0 + 1 + 1 + 1 + 1 + 1 + 1)) = Op.aq x := by rw [ocell l hll, hx]; rfl
  have c7 : toB (cellAt (List.map orow l) r.2.toNat (0 + 1 + 1 + 1 + 1 + 1 + 1 + 1)) = Op.rl x := by rw [ocell l hll, hx]; rfl
  have c8 : toI (cellAt (List.map orow l) r.2.toNat (0 + 1 + 1 + 1 + 1 + 1 + 1 + 1 + 1)) = Op.pd x := by rw [ocell l hll, hx]; rfl
  have c9 : toI (cellAt (List.map orow l) r.2.toNat (0 + 1 + 1 + 1 + 1 + 1 + 1 + 1 + 1 + 1)) = Op.sc x := by rw [ocell l hll, hx]; rfl
  have c10 : cellAt (List.map orow l) r.2.toNat (0 + 1 + 1 + 1 + 1 + 1 + 1 + 1 + 1 + 1 + 1) = Op.ya x := by rw [ocell l hll, hx]; rfl
  have c11 : cellAt (List.map orow l) r.2.toNat (0 + 1 + 1 + 1 + 1 + 1 + 1 + 1 + 1 + 1 + 1 + 1) = Op.yd x := by rw [ocell l hll, hx]; rfl
  have c12 : cellAt (List.map orow l) r.2.toNat (0 + 1 + 1 + 1 + 1 + 1 + 1 + 1 + 1 + 1 + 1 + 1 + 1) = Op.yc x := by rw [ocell l hll, hx]; rfl
  rw [c0, c1, c2, c3, c4, c5, c6, c7, c8, c9, c10, c11, c12]
  clear c0 c1 c2 c3 c4 c5 c6 c7 c8 c9 c10 c11 c12
  repeat ((conv => whnf); (first | refine Cnd.yes ?_ | refine Cnd.no ?_ | refine And.intro rfl ?_ | refine aom ?_ | refine Alt.std ?_ | (show Ko_ _ _ _ _; subst hKo_) | refine ctt ?_ | refine cff ?_))
  conv => whnf
  refine ⟨[0, 1, 2, 3, 4, 5, 6, 7, 8], .agg (osv x), chk true eh eo eb H O P Q r1 r2 N1 N2 bl, ?_⟩
  repeat ((conv => whnf); (first | refine Cnd.yes ?_ | refine Cnd.no ?_ | refine And.intro rfl ?_ | refine aom ?_ | refine Alt.std ?_ | (show Ko_ _ _ _ _; subst hKo_)))
  conv => whnf
  exact hK
theorem op_runF (M : HL) (K : SV → List Ent → HL → Prop) (eh eo eb : TypeId) (H : Hs) (O : List Rf) (P Q : List Value) (r1 r2 : Nat) (N1 N2 : HL) (bl : List Int) (p : Nat) (hH : HIn M H) (hp : p < O.length) (hr : RefOK H (O.getD p (0, 0)))
    (hK : K (.agg (osv (opAt H (O.getD p (0, 0))))) (chk false eh eo eb H O P Q r1 r2 N1 N2 bl) M) :
    runF G0 pf55 [.ptr 0 0 0 0, .v (.int .i64 p)] (chk false eh eo eb H O P Q r1 r2 N1 N2 bl) M fun v hp2 M2 => ∃ m v' hp', Wk (llen (chk false eh eo eb H O P Q r1 r2 N1 N2 bl)) m [v] hp2 [v'] hp' (K v' hp' M2) := by
  have e0 : toI (cellAt (O.map rrow) (0 + (p : Int).toNat) (0 + 0)) = (O.getD p (0, 0)).1 := by rw [Nat.zero_add, Int.toNat_natCast]; exact rcell0 O hp
  have e1 : toI (cellAt (O.map rrow) (0 + (p : Int).toNat) (0 + 1)) = (O.getD p (0, 0)).2 := by rw [Nat.zero_add, Int.toNat_natCast]; exact rcell1 O hp
  unfold opAt at hK
  generalize O.getD p (0, 0) = r at *
  obtain ⟨h0, h1, h2, h3⟩ := hr
  have hin : r.1.toNat < H.length := by omega
  have hmem : H.getD r.1.toNat default ∈ H := by simp [List.getD, hin]
  obtain ⟨e1', hR⟩ := hH.r _ hmem
  have c0 : cellAt (H.map hrow) (0 + r.1.toNat) 0 = (H.getD r.1.toNat default).1 := by rw [Nat.zero_add, hcell H hin]
  have hyl := hR.len
  rw [List.length_map] at hyl
  obtain ⟨x, hx⟩ : ∃ x, (H.getD r.1.toNat default).2.getD r.2.toNat default = x := ⟨_, rfl⟩
  rw [hx] at hK
  generalize H.getD r.1.toNat default = pl at *
  obtain ⟨y, l⟩ := pl
  dsimp only at *
  repeat ((conv => whnf); (first | refine Cnd.yes ?_ | refine Cnd.no ?_ | refine And.intro rfl ?_ | refine aom ?_ | refine Alt.std ?_ | (show Ko_ _ _ _ _; subst hKo_) | refine ctt ?_ | refine cff ?_))
  conv => whnf
  rw [e0, e1, c0, hyl]
  repeat ((conv => whnf); (first | refine Cnd.yes ?_ | refine Cnd.no ?_ | refine And.intro rfl ?_ | refine aom ?_ | refine Alt.std ?_ | (show Ko_ _ _ _ _; subst hKo_) | refine ctt ?_ | refine cff ?_))
  conv => whnf
  refine ⟨e1', ock, l.map orow, .inr (.inr hR), ?_⟩
  repeat ((conv => whnf); (first | refine Cnd.yes ?_ | refine Cnd.no ?_ | refine And.intro rfl ?_ | refine aom ?_ | refine Alt.std ?_ | (show Ko_ _ _ _ _; subst hKo_) | refine ctt ?_ | refine cff ?_))
  conv => whnf
  have hx1 : l.getD (0 + r.2.toNat) default = x := by rw [Nat.zero_add]; exact hx
  have hll : r.2.toNat < l.length := by omega
  have c0 : toI (cellAt (List.map orow l) r.2.toNat 0) = Op.k x := by rw [ocell l hll, hx]; rfl
  have c1 : toI (cellAt (List.map orow l) r.2.toNat (0 + 1)) = Op.sz x := by rw [ocell l hll, hx]; rfl
  have c2 : toI (cellAt (List.map orow l) r.2.toNat (0 + 1 + 1)) = Op.ad x := by rw [ocell l hll, hx]; rfl
  have c3 : toI (cellAt (List.map orow l) r.2.toNat (0 + 1 + 1 + 1)) = Op.v x := by rw [ocell l hll, hx]; rfl
  have c4 : toI (cellAt (List.map orow l) r.2.toNat (0 + 1 + 1 + 1 + 1)) = Op.g x := by rw [ocell l hll, hx]; rfl
  have c5 : toB (cellAt (List.map orow l) r.2.toNat (0 + 1 + 1 + 1 + 1 + 1)) = Op.pr x := by rw [ocell l hll, hx]; rfl
  have c6 : toB (cellAt (List.map orow l) r.2.toNat (0 + 1 + 1 + 1 + 1 + 1 + 1)) = Op.aq x := by rw [ocell l hll, hx]; rfl
  have c7 : toB (cellAt (List.map orow l) r.2.toNat (0 + 1 + 1 + 1 + 1 + 1 + 1 + 1)) = Op.rl x := by rw [ocell l hll, hx]; rfl
  have c8 : toI (cellAt (List.map orow l) r.2.toNat (0 + 1 + 1 + 1 + 1 + 1 + 1 + 1 + 1)) = Op.pd x := by rw [ocell l hll, hx]; rfl
  have c9 : toI (cellAt (List.map orow l) r.2.toNat (0 + 1 + 1 + 1 + 1 + 1 + 1 + 1 + 1 + 1)) = Op.sc x := by rw [ocell l hll, hx]; rfl
  have c10 : cellAt (List.map orow l) r.2.toNat (0 + 1 + 1 + 1 + 1 + 1 + 1 + 1 + 1 + 1 + 1) = Op.ya x := by rw [ocell l hll, hx]; rfl
  have c11 : cellAt (List.map orow l) r.2.toNat (0 + 1 + 1 + 1 + 1 + 1 + 1 + 1 + 1 + 1 + 1 + 1) = Op.yd x := by rw [ocell l hll, hx]; rfl
  have c12 : cellAt (List.map orow l) r.2.toNat (0 + 1 + 1 + 1 + 1 + 1 + 1 + 1 + 1 + 1 + 1 + 1 + 1) = Op.yc x := by rw [ocell l hll, hx]; rfl
  rw [c0, c1, c2, c3, c4, c5, c6, c7, c8, c9, c10, c11, c12]
  clear c0 c1 c2 c3 c4 c5 c6 c7 c8 c9 c10 c11 c12
  repeat ((conv => whnf); (first | refine Cnd.yes ?_ | refine Cnd.no ?_ | refine And.intro rfl ?_ | refine aom ?_ | refine Alt.std ?_ | (show Ko_ _ _ _ _; subst hKo_) | refine ctt ?_ | refine cff ?_))
  conv => whnf
  refine ⟨[0, 1, 2, 3, 4, 5, 6, 7, 8], .agg (osv x), chk false eh eo eb H O P Q r1 r2 N1 N2 bl, ?_⟩
  repeat ((conv => whnf); (first | refine Cnd.yes ?_ | refine Cnd.no ?_ | refine And.intro rfl ?_ | refine aom ?_ | refine Alt.std ?_ | (show Ko_ _ _ _ _; subst hKo_)))
  conv => whnf
  exact hK
end Go.Proofs.YtkfkoldaeplckaaDoor
