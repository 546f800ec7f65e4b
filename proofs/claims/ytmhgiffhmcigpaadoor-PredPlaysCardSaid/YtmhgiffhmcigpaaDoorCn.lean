/-
  The stack of returns: Call, Back, Depth, walked; their contracts.
-/
import Derived.Test.YtmhgiffhmcigpaaDoorCl
namespace Go.Proofs.YtmhgiffhmcigpaaDoor
open Go Go.Vc
set_option maxRecDepth 100000
set_option linter.unusedSimpArgs false
set_option linter.unusedVariables false
def rtHp (o : Bool) (pre l post : List Nat) : List Ent := [cellsB o 68 [.slc 1 1 pre.length l.length], .row o 22 [.int .u32] ((pre ++ l ++ post).map wrow)]
def callL (l : List Nat) (pc : Nat) : List Nat := l ++ [(pc + 4) % 4294967296]
theorem call_run (M : HL) (K : SV → List Ent → HL → Prop) (pre l post : List Nat) (pc : Nat) (h1 : l.length ≤ 100) (h3 : pc < 4294967296)
    (hK : K (.tup []) [.cells 68 [.slc 2 1 (l.length + 1 - 8) (min (l.length + 1) 8)], .gone, .row true 22 [.int .u32] ((callL l pc).map wrow)] M) :
    runF G4 pf15 [.ptr 0 0 0 0, .v (.int .u32 pc)] (rtHp true pre l post) M fun v hp2 M2 => ∃ m v' hp', Wk (llen (rtHp true pre l post)) m [v] hp2 [v'] hp' (K v' hp' M2) := by
  have e : IntKind.u32.wrap ((pc : Int) + 4) = ((pc + 4) % 4294967296 : Nat) := by rw [IntKind.wrap_u32]; omega
  have er : ∀ z, List.take (0 + l.length) (List.drop 0 (List.take 0 (List.drop 0 z) ++ List.take l.length (List.drop pre.length (List.map wrow (pre ++ l ++ post))))) ++ List.take 1 (List.drop 0 [[Value.int IntKind.u32 (IntKind.u32.wrap (↑pc + 4))]]) = List.map wrow (callL l pc) := by
    intro z
    rw [e]
    simp [callL, wrow, List.drop_append, List.take_append]
    rw [List.take_of_length_le (by simp)]
  repeat ((conv => whnf); (first | refine Cnd.yes ?_ | refine Cnd.no ?_ | refine And.intro rfl ?_ | refine And.intro (by omega) ?_ | (refine And.intro ?_ ?_; focus (simp only [IntKind.wrap_i64, IntKind.wrap_u64, IntKind.wrap_u32]; omega)) | (refine And.intro ?_ ?_; focus (simp only [zl1, zl2, zl3, zl4, zl5, zl6, zl7, zl8] <;> omega))))
  conv => whnf
  refine ⟨fun h0 => ?_, fun h0 => ⟨?_, ?_⟩⟩
  · repeat ((conv => whnf); (first | refine Cnd.yes ?_ | refine Cnd.no ?_ | refine And.intro rfl ?_ | refine And.intro (by omega) ?_ | (refine And.intro ?_ ?_; focus (simp only [IntKind.wrap_i64, IntKind.wrap_u64, IntKind.wrap_u32]; omega)) | (refine And.intro ?_ ?_; focus (simp only [zl1, zl2, zl3, zl4, zl5, zl6, zl7, zl8] <;> omega))))
    conv => whnf
    refine ⟨[0, 1, 5], .tup [], [.cells 68 [.slc 2 1 (l.length + 1 - 8) (min (l.length + 1) 8)], .gone, .row true 22 [.int .u32] ((callL l pc).map wrow)], ?_⟩
    repeat ((conv => whnf); (first | refine Cnd.yes ?_ | refine Cnd.no ?_ | refine And.intro rfl ?_ | refine And.intro (by omega) ?_ | (refine And.intro ?_ ?_; focus (simp only [IntKind.wrap_i64, IntKind.wrap_u64, IntKind.wrap_u32]; omega)) | (refine And.intro ?_ ?_; focus (simp only [zl1, zl2, zl3, zl4, zl5, zl6, zl7, zl8] <;> omega))))
    conv => whnf
    refine ⟨er _, ?_⟩
    repeat ((conv => whnf); (first | refine Cnd.yes ?_ | refine Cnd.no ?_ | refine And.intro rfl ?_ | refine And.intro (by omega) ?_ | (refine And.intro ?_ ?_; focus (simp only [IntKind.wrap_i64, IntKind.wrap_u64, IntKind.wrap_u32]; omega)) | (refine And.intro ?_ ?_; focus (simp only [zl1, zl2, zl3, zl4, zl5, zl6, zl7, zl8] <;> omega))))
    conv => whnf
    exact hK
  · repeat ((conv => whnf); (first | refine Cnd.yes ?_ | refine Cnd.no ?_ | refine And.intro rfl ?_ | refine And.intro (by omega) ?_ | (refine And.intro ?_ ?_; focus (simp only [IntKind.wrap_i64, IntKind.wrap_u64, IntKind.wrap_u32]; omega)) | (refine And.intro ?_ ?_; focus (simp only [zl1, zl2, zl3, zl4, zl5, zl6, zl7, zl8] <;> omega))))
    conv => whnf
    refine ⟨[0, 1, 3], .tup [], [.cells 68 [.slc 2 1 (l.length + 1 - 8) (min (l.length + 1) 8)], .gone, .row true 22 [.int .u32] ((callL l pc).map wrow)], ?_⟩
    repeat ((conv => whnf); (first | refine Cnd.yes ?_ | refine Cnd.no ?_ | refine And.intro rfl ?_ | refine And.intro (by omega) ?_ | (refine And.intro ?_ ?_; focus (simp only [IntKind.wrap_i64, IntKind.wrap_u64, IntKind.wrap_u32]; omega)) | (refine And.intro ?_ ?_; focus (simp only [zl1, zl2, zl3, zl4, zl5, zl6, zl7, zl8] <;> omega))))
    conv => whnf
    refine ⟨by rw [e, List.length_eq_zero_iff.1 h0]; rfl, ?_⟩
    repeat ((conv => whnf); (first | refine Cnd.yes ?_ | refine Cnd.no ?_ | refine And.intro rfl ?_ | refine And.intro (by omega) ?_ | (refine And.intro ?_ ?_; focus (simp only [IntKind.wrap_i64, IntKind.wrap_u64, IntKind.wrap_u32]; omega)) | (refine And.intro ?_ ?_; focus (simp only [zl1, zl2, zl3, zl4, zl5, zl6, zl7, zl8] <;> omega))))
    conv => whnf
    exact hK
  · repeat ((conv => whnf); (first | refine Cnd.yes ?_ | refine Cnd.no ?_ | refine And.intro rfl ?_ | refine And.intro (by omega) ?_ | (refine And.intro ?_ ?_; focus (simp only [IntKind.wrap_i64, IntKind.wrap_u64, IntKind.wrap_u32]; omega)) | (refine And.intro ?_ ?_; focus (simp only [zl1, zl2, zl3, zl4, zl5, zl6, zl7, zl8] <;> omega))))
    conv => whnf
    refine ⟨[0, 1, 5], .tup [], [.cells 68 [.slc 2 1 (l.length + 1 - 8) (min (l.length + 1) 8)], .gone, .row true 22 [.int .u32] ((callL l pc).map wrow)], ?_⟩
    repeat ((conv => whnf); (first | refine Cnd.yes ?_ | refine Cnd.no ?_ | refine And.intro rfl ?_ | refine And.intro (by omega) ?_ | (refine And.intro ?_ ?_; focus (simp only [IntKind.wrap_i64, IntKind.wrap_u64, IntKind.wrap_u32]; omega)) | (refine And.intro ?_ ?_; focus (simp only [zl1, zl2, zl3, zl4, zl5, zl6, zl7, zl8] <;> omega))))
    conv => whnf
    refine ⟨er _, ?_⟩
    repeat ((conv => whnf); (first | refine Cnd.yes ?_ | refine Cnd.no ?_ | refine And.intro rfl ?_ | refine And.intro (by omega) ?_ | (refine And.intro ?_ ?_; focus (simp only [IntKind.wrap_i64, IntKind.wrap_u64, IntKind.wrap_u32]; omega)) | (refine And.intro ?_ ?_; focus (simp only [zl1, zl2, zl3, zl4, zl5, zl6, zl7, zl8] <;> omega))))
    conv => whnf
    exact hK
def callS : Vc.Spec := fun args hp _ K => ∃ (pre l post : List Nat) (pc : Nat), args = [.ptr 0 0 0 0, .v (.int .u32 pc)] ∧ hp = rtHp true pre l post ∧ l.length ≤ 100 ∧ pc < 4294967296 ∧
  K (.tup []) [.cells 68 [.slc 2 1 (l.length + 1 - 8) (min (l.length + 1) 8)], .gone, .row true 22 [.int .u32] ((callL l pc).map wrow)]
theorem call_ok : SOK Tryd.prog 15 callS := by
  refine TOK.weaken (TOK.out (runF_eq G4_ok mixed at15.1 at15.2 pf15_eq)) fun args hp M K h => ?_
  obtain ⟨pre, l, post, pc, rfl, rfl, h1, h2, h3⟩ := h
  exact call_run M K pre l post pc h1 h2 h3
theorem back0_run (M : HL) (K : SV → List Ent → HL → Prop) (pre post : List Nat) (hK : K (.tup [.v (.int .u32 0), .v (.bool false)]) (rtHp true pre [] post) M) :
    runF G4 pf17 [.ptr 0 0 0 0] (rtHp true pre [] post) M K := by
  repeat ((conv => whnf); (first | refine Cnd.yes ?_ | refine Cnd.no ?_ | refine And.intro rfl ?_ | refine And.intro (by omega) ?_ | (refine And.intro ?_ ?_; focus (simp only [IntKind.wrap_i64, IntKind.wrap_u64, IntKind.wrap_u32]; omega)) | (refine And.intro ?_ ?_; focus (simp only [zl1, zl2, zl3, zl4, zl5, zl6, zl7, zl8] <;> omega))))
  conv => whnf
  exact hK
theorem back_run (M : HL) (K : SV → List Ent → HL → Prop) (pre l post : List Nat) (x : Nat) (h1 : l.length ≤ 100) (hK : K (.tup [.v (.int .u32 x), .v (.bool true)]) (rtHp true pre l (x :: post)) M) :
    runF G4 pf17 [.ptr 0 0 0 0] (rtHp true pre (l ++ [x]) post) M K := by
  have hl : (l ++ [x]).length = l.length + 1 := by simp
  have hrows : (pre ++ (l ++ [x]) ++ post).map wrow = (pre ++ l ++ (x :: post)).map wrow := by simp
  have hc : toI (cellAt ((pre ++ l ++ (x :: post)).map wrow) (pre.length + l.length) 0) = (x : Nat) := by simp [cellAt, wrow, toI, List.getD]
  unfold rtHp at hK ⊢
  rw [hl, hrows]
  have e : IntKind.i64.wrap (((l.length + 1 : Nat) : Int) - 1) = (l.length : Nat) := by rw [IntKind.wrap_i64]; omega
  repeat ((conv => whnf); (first | refine Cnd.yes ?_ | refine Cnd.no ?_ | refine And.intro rfl ?_ | refine And.intro (by omega) ?_ | (refine And.intro ?_ ?_; focus (simp only [IntKind.wrap_i64, IntKind.wrap_u64, IntKind.wrap_u32]; omega)) | (refine And.intro ?_ ?_; focus (simp only [zl1, zl2, zl3, zl4, zl5, zl6, zl7, zl8] <;> omega))))
  conv => whnf
  rw [e, Int.toNat_natCast, hc]
  exact hK
def backS : Vc.Spec := fun args hp _ K => (∃ (pre post : List Nat), args = [.ptr 0 0 0 0] ∧ hp = rtHp true pre [] post ∧ K (.tup [.v (.int .u32 0), .v (.bool false)]) (rtHp true pre [] post)) ∨
  (∃ (pre l post : List Nat) (x : Nat), args = [.ptr 0 0 0 0] ∧ hp = rtHp true pre (l ++ [x]) post ∧ l.length ≤ 100 ∧ K (.tup [.v (.int .u32 x), .v (.bool true)]) (rtHp true pre l (x :: post)))
theorem back_ok : SOK Tryd.prog 17 backS := by
  refine TOK.weaken (runF_eq G4_ok mixed at17.1 at17.2 pf17_eq) fun args hp M K h => ?_
  rcases h with ⟨pre, post, rfl, rfl, h⟩ | ⟨pre, l, post, x, rfl, rfl, h1, h⟩
  · exact back0_run M K pre post h
  · exact back_run M K pre l post x h1 h
noncomputable def specs5 : Nat → Option Vc.Trans := tget [(7, frameT firstS), (8, frameT newS), (9, frameT learnS), (10, frameT takenS), (12, frameT seenS), (13, frameT targetS), (15, frameT callS), (17, frameT backS)]
noncomputable def G5 : Nat → Option Vc.Trans := tabG specs5 (tget tab) 5
theorem G5_ok : GOK Tryd.prog G5 := tabG_ok (GOK.cons (frame_ok first_ok) (GOK.cons (frame_ok new_ok) (GOK.cons (frame_ok learn_ok) (GOK.cons (frame_ok taken_ok) (GOK.cons (frame_ok seen_ok) (GOK.cons (frame_ok target_ok) (GOK.cons (frame_ok call_ok) (GOK.cons (frame_ok back_ok) .nil)))))))) tab_ok 5
/-- What is left behind, and what is on the stack, after so many calls. -/
def stk (cs : List Nat) : Nat → List Nat × List Nat | 0 => ([], []) | i + 1 => ((callL (stk cs i).2 (cs.getD i 0)).take ((stk cs i).2.length + 1 - 8), (callL (stk cs i).2 (cs.getD i 0)).drop ((stk cs i).2.length + 1 - 8))
def p4 (x : Nat) : Nat := (x + 4) % 4294967296
theorem stk_eq (cs : List Nat) : ∀ i, i ≤ cs.length → (stk cs i).2 = ((cs.take i).map p4).drop (i - 8)
  | 0, _ => rfl
  | i + 1, h => by
    have ih := stk_eq cs i (by omega)
    have hx : cs.take (i + 1) = cs.take i ++ [cs.getD i 0] := by
      rw [List.take_succ_eq_append_getElem (by omega)]
      simp [List.getD, List.getElem?_eq_getElem (show i < cs.length by omega)]
    simp only [stk, callL]
    rw [ih, hx, List.map_append]
    simp only [List.length_drop, List.length_map, List.length_take, Nat.min_eq_left (show i ≤ cs.length by omega)]
    rw [show List.map p4 [cs.getD i 0] = [(cs.getD i 0 + 4) % 4294967296] from rfl, List.drop_append, List.drop_append, List.drop_drop]
    congr 1
    · congr 1
      omega
    · congr 1
      simp
      omega
theorem stk_len (cs : List Nat) {i : Nat} (h : i ≤ cs.length) : (stk cs i).2.length = min i 8 := by
  rw [stk_eq cs i h]
  simp
  omega
theorem stk_get (cs : List Nat) {j : Nat} (h : j < min cs.length 8) : (stk cs cs.length).2.getD j 0 = p4 (cs.getD (cs.length - 8 + j) 0) := by
  rw [stk_eq cs _ (Nat.le_refl _), List.take_length]
  simp [List.getD, List.getElem?_drop, List.getElem?_map, List.getElem?_eq_getElem (show cs.length - 8 + j < cs.length by omega)]
def rHp (e : TypeId) (cs pre l post : List Nat) : List Ent := [.row false e [.int .u32] (cs.map wrow), .cells 68 [.slc 2 1 pre.length l.length], .row true 22 [.int .u32] ((pre ++ l ++ post).map wrow), .cells 34 [.any, .any, .ptr 1 0 0 0]]
set_option maxHeartbeats 4000000 in
theorem returns_run (M : HL) (K : SV → List Ent → HL → Prop) (e : TypeId) (cs : List Nat) (hl : ∀ i, cs.getD i 0 < 4294967296)
    (hK : ∀ hp, K (.v (.bool true)) hp M) : runF G5 pf5 [.slc 0 1 0 cs.length] [.row false e [.int .u32] (cs.map wrow)] M K := by
  repeat ((conv => whnf); (first | refine Cnd.yes ?_ | refine Cnd.no ?_ | refine And.intro rfl ?_ | refine And.intro (by omega) ?_ | (refine And.intro ?_ ?_; focus (simp only [IntKind.wrap_i64, IntKind.wrap_u64, IntKind.wrap_u32]; omega)) | (refine And.intro ?_ ?_; focus (simp only [zl1, zl2, zl3, zl4, zl5, zl6, zl7, zl8] <;> omega))))
  conv => whnf
  refine Cnd.mk (fun hbig => ?_) fun hsmall => ?_
  · repeat ((conv => whnf); (first | refine Cnd.yes ?_ | refine Cnd.no ?_ | refine And.intro rfl ?_ | refine And.intro (by omega) ?_ | (refine And.intro ?_ ?_; focus (simp only [IntKind.wrap_i64, IntKind.wrap_u64, IntKind.wrap_u32]; omega)) | (refine And.intro ?_ ?_; focus (simp only [zl1, zl2, zl3, zl4, zl5, zl6, zl7, zl8] <;> omega))))
    conv => whnf
    exact hK _
  have hsm : cs.length ≤ 30 := by have := of_decide_eq_false hsmall; omega
  repeat ((conv => whnf); (first | refine Cnd.yes ?_ | refine Cnd.no ?_ | refine And.intro rfl ?_ | refine And.intro (by omega) ?_ | (refine And.intro ?_ ?_; focus (simp only [IntKind.wrap_i64, IntKind.wrap_u64, IntKind.wrap_u32]; omega)) | (refine And.intro ?_ ?_; focus (simp only [zl1, zl2, zl3, zl4, zl5, zl6, zl7, zl8] <;> omega))))
  conv => whnf
  refine ⟨fun cnt tm hp M' => ∃ i : Nat, i ≤ cs.length ∧ cnt = cs.length - i ∧ M' = M ∧ tmkK 105 0 [(0, .slc 0 1 0 cs.length), (4, .ptr 3 0 0 0), (6, .v (.int .i64 i))] (fun l => tm = l) ∧ hp = rHp e cs (stk cs i).1 (stk cs i).2 [],
    ⟨cs.length, [0, 11, 13, 12], tmk 105 0 [(0, .slc 0 1 0 cs.length), (4, .ptr 3 0 0 0), (6, .v (.int .i64 (0 : Nat)))], rHp e cs (stk cs 0).1 (stk cs 0).2 [], ?_⟩, ?_⟩
  · repeat ((conv => whnf); (first | refine Cnd.yes ?_ | refine Cnd.no ?_ | refine And.intro rfl ?_ | refine And.intro (by omega) ?_ | (refine And.intro ?_ ?_; focus (simp only [IntKind.wrap_i64, IntKind.wrap_u64, IntKind.wrap_u32]; omega)) | (refine And.intro ?_ ?_; focus (simp only [zl1, zl2, zl3, zl4, zl5, zl6, zl7, zl8] <;> omega))))
    conv => whnf
    exact ⟨0, by omega, by omega, rfl, (tmkK_eq _ _ _ _).mpr rfl, rfl⟩
  · rintro cnt tm hp M' ⟨i, hi, rfl, rfl, htm, rfl⟩
    conv at htm => whnf
    subst htm
    repeat ((conv => whnf); (first | refine Cnd.yes ?_ | refine Cnd.no ?_ | refine And.intro rfl ?_ | refine And.intro (by omega) ?_ | (refine And.intro ?_ ?_; focus (simp only [IntKind.wrap_i64, IntKind.wrap_u64, IntKind.wrap_u32]; omega)) | (refine And.intro ?_ ?_; focus (simp only [zl1, zl2, zl3, zl4, zl5, zl6, zl7, zl8] <;> omega))))
    conv => whnf
    refine Cnd.mk (fun hlt => ?_) fun hge => ?_
    · have hin : i < cs.length := by have := of_decide_eq_true hlt; omega
      have hsl := stk_len cs hi
      repeat ((conv => whnf); (first | refine Cnd.yes ?_ | refine Cnd.no ?_ | refine And.intro rfl ?_ | refine And.intro (by omega) ?_ | (refine And.intro ?_ ?_; focus (simp only [IntKind.wrap_i64, IntKind.wrap_u64, IntKind.wrap_u32]; omega)) | (refine And.intro ?_ ?_; focus (simp only [zl1, zl2, zl3, zl4, zl5, zl6, zl7, zl8] <;> omega))))
      conv => whnf
      rw [toI_w hin]
      refine ⟨(stk cs i).1, (stk cs i).2, [], cs.getD i 0, rfl, rfl, by omega, hl i, ?_⟩
      repeat ((conv => whnf); (first | refine Cnd.yes ?_ | refine Cnd.no ?_ | refine And.intro rfl ?_ | refine And.intro (by omega) ?_ | (refine And.intro ?_ ?_; focus (simp only [IntKind.wrap_i64, IntKind.wrap_u64, IntKind.wrap_u32]; omega)) | (refine And.intro ?_ ?_; focus (simp only [zl1, zl2, zl3, zl4, zl5, zl6, zl7, zl8] <;> omega))))
      conv => whnf
      refine ⟨cs.length - (i + 1), [0, 1, 4, 3], tmk 105 0 [(0, .slc 0 1 0 cs.length), (4, .ptr 3 0 0 0), (6, .v (.int .i64 (i + 1 : Nat)))], rHp e cs (stk cs (i + 1)).1 (stk cs (i + 1)).2 [], by omega, ?_⟩
      repeat ((conv => whnf); (first | refine Cnd.yes ?_ | refine Cnd.no ?_ | refine And.intro rfl ?_ | refine And.intro (by omega) ?_ | (refine And.intro ?_ ?_; focus (simp only [IntKind.wrap_i64, IntKind.wrap_u64, IntKind.wrap_u32]; omega)) | (refine And.intro ?_ ?_; focus (simp only [zl1, zl2, zl3, zl4, zl5, zl6, zl7, zl8] <;> omega))))
      conv => whnf
      refine ⟨by simp [stk, callL] <;> omega, by simp [stk, callL]; omega, ?_⟩
      repeat ((conv => whnf); (first | refine Cnd.yes ?_ | refine Cnd.no ?_ | refine And.intro rfl ?_ | refine And.intro (by omega) ?_ | (refine And.intro ?_ ?_; focus (simp only [IntKind.wrap_i64, IntKind.wrap_u64, IntKind.wrap_u32]; omega)) | (refine And.intro ?_ ?_; focus (simp only [zl1, zl2, zl3, zl4, zl5, zl6, zl7, zl8] <;> omega))))
      conv => whnf
      refine ⟨by simp [stk, List.take_append_drop], ?_⟩
      repeat ((conv => whnf); (first | refine Cnd.yes ?_ | refine Cnd.no ?_ | refine And.intro rfl ?_ | refine And.intro (by omega) ?_ | (refine And.intro ?_ ?_; focus (simp only [IntKind.wrap_i64, IntKind.wrap_u64, IntKind.wrap_u32]; omega)) | (refine And.intro ?_ ?_; focus (simp only [zl1, zl2, zl3, zl4, zl5, zl6, zl7, zl8] <;> omega))))
      conv => whnf
      exact ⟨i + 1, by omega, rfl, rfl, (tmkK_eq _ _ _ _).mpr rfl, rfl⟩
    · have hin : i = cs.length := by have := of_decide_eq_false hge; omega
      subst hin
      have hsl := stk_len cs (Nat.le_refl cs.length)
      have hget := @stk_get cs
      generalize hS : (stk cs cs.length).2 = S at hsl hget
      generalize hP : (stk cs cs.length).1 = P
      generalize hn : min cs.length 8 = n at hsl hget
      repeat ((conv => whnf); (first | refine Cnd.yes ?_ | refine Cnd.no ?_ | refine And.intro rfl ?_ | refine And.intro (by omega) ?_ | (refine And.intro ?_ ?_; focus (simp only [IntKind.wrap_i64, IntKind.wrap_u64, IntKind.wrap_u32]; omega)) | (refine And.intro ?_ ?_; focus (simp only [zl1, zl2, zl3, zl4, zl5, zl6, zl7, zl8] <;> omega))))
      conv => whnf
      have em : (if (8 : Int) < ((cs.length : Nat) : Int) then (8 : Int) else ((cs.length : Nat) : Int)) = ((n : Nat) : Int) := by split <;> omega
      rw [em, hsl]
      refine Cnd.ff (by simp) ?_
      repeat ((conv => whnf); (first | refine Cnd.yes ?_ | refine Cnd.no ?_ | refine And.intro rfl ?_ | refine And.intro (by omega) ?_ | (refine And.intro ?_ ?_; focus (simp only [IntKind.wrap_i64, IntKind.wrap_u64, IntKind.wrap_u32]; omega)) | (refine And.intro ?_ ?_; focus (simp only [zl1, zl2, zl3, zl4, zl5, zl6, zl7, zl8] <;> omega))))
      conv => whnf
      refine ⟨fun cnt tm hp M1 => ∃ k : Nat, k ≤ n ∧ cnt = n - k ∧ M1 = M' ∧ tmkK 105 0 [(0, .slc 0 1 0 cs.length), (4, .ptr 3 0 0 0), (7, .v (.int .i64 n)), (8, .v (.int .i64 k))] (fun l => tm = l) ∧ hp = rHp e cs P (S.take (n - k)) (S.drop (n - k)),
        ⟨n, [0, 1, 2, 3], tmk 105 0 [(0, .slc 0 1 0 cs.length), (4, .ptr 3 0 0 0), (7, .v (.int .i64 n)), (8, .v (.int .i64 (0 : Nat)))], rHp e cs P (S.take (n - 0)) (S.drop (n - 0)), ?_⟩, ?_⟩
      · repeat ((conv => whnf); (first | refine Cnd.yes ?_ | refine Cnd.no ?_ | refine And.intro rfl ?_ | refine And.intro (by omega) ?_ | (refine And.intro ?_ ?_; focus (simp only [IntKind.wrap_i64, IntKind.wrap_u64, IntKind.wrap_u32]; omega)) | (refine And.intro ?_ ?_; focus (simp only [zl1, zl2, zl3, zl4, zl5, zl6, zl7, zl8] <;> omega))))
        conv => whnf
        refine ⟨by rw [Nat.sub_zero, ← hsl, List.take_length, List.drop_length], ?_⟩
        repeat ((conv => whnf); (first | refine Cnd.yes ?_ | refine Cnd.no ?_ | refine And.intro rfl ?_ | refine And.intro (by omega) ?_ | (refine And.intro ?_ ?_; focus (simp only [IntKind.wrap_i64, IntKind.wrap_u64, IntKind.wrap_u32]; omega)) | (refine And.intro ?_ ?_; focus (simp only [zl1, zl2, zl3, zl4, zl5, zl6, zl7, zl8] <;> omega))))
        conv => whnf
        exact ⟨0, by omega, by omega, rfl, (tmkK_eq _ _ _ _).mpr rfl, rfl⟩
      · rintro cnt tm hp M1 ⟨k, hk, rfl, rfl, htm, rfl⟩
        conv at htm => whnf
        subst htm
        repeat ((conv => whnf); (first | refine Cnd.yes ?_ | refine Cnd.no ?_ | refine And.intro rfl ?_ | refine And.intro (by omega) ?_ | (refine And.intro ?_ ?_; focus (simp only [IntKind.wrap_i64, IntKind.wrap_u64, IntKind.wrap_u32]; omega)) | (refine And.intro ?_ ?_; focus (simp only [zl1, zl2, zl3, zl4, zl5, zl6, zl7, zl8] <;> omega))))
        conv => whnf
        refine Cnd.mk (fun hlt => ?_) fun hge => ?_
        · have hkn : k < n := by have := of_decide_eq_true hlt; omega
          have ht : S.take (n - k) = S.take (n - (k + 1)) ++ [S.getD (n - (k + 1)) 0] := by
            rw [show n - k = n - (k + 1) + 1 by omega, List.take_succ_eq_append_getElem (by omega)]
            simp [List.getD, List.getElem?_eq_getElem (show n - (k + 1) < S.length by omega)]
          have hd : S.drop (n - (k + 1)) = S.getD (n - (k + 1)) 0 :: S.drop (n - k) := by
            rw [List.drop_eq_getElem_cons (by omega), show n - (k + 1) + 1 = n - k by omega]
            simp [List.getD, List.getElem?_eq_getElem (show n - (k + 1) < S.length by omega)]
          repeat ((conv => whnf); (first | refine Cnd.yes ?_ | refine Cnd.no ?_ | refine And.intro rfl ?_ | refine And.intro (by omega) ?_ | (refine And.intro ?_ ?_; focus (simp only [IntKind.wrap_i64, IntKind.wrap_u64, IntKind.wrap_u32]; omega)) | (refine And.intro ?_ ?_; focus (simp only [zl1, zl2, zl3, zl4, zl5, zl6, zl7, zl8] <;> omega))))
          conv => whnf
          refine .inr ⟨P, S.take (n - (k + 1)), S.drop (n - k), S.getD (n - (k + 1)) 0, rfl, by rw [← ht]; rfl, by simp; omega, ?_⟩
          rw [← hd]
          repeat ((conv => whnf); (first | refine Cnd.yes ?_ | refine Cnd.no ?_ | refine And.intro rfl ?_ | refine And.intro (by omega) ?_ | (refine And.intro ?_ ?_; focus (simp only [IntKind.wrap_i64, IntKind.wrap_u64, IntKind.wrap_u32]; omega)) | (refine And.intro ?_ ?_; focus (simp only [zl1, zl2, zl3, zl4, zl5, zl6, zl7, zl8] <;> omega))))
          conv => whnf
          have e1 : IntKind.i64.wrap (IntKind.i64.wrap ((cs.length : Int) - 1) - k) = ((cs.length - 1 - k : Nat) : Int) := by simp only [IntKind.wrap_i64]; omega
          have e2 : ∀ x : Nat, IntKind.u32.wrap ((x : Int) + 4) = ((p4 x : Nat) : Int) := fun x => by rw [IntKind.wrap_u32, p4]; omega
          rw [e1]
          repeat ((conv => whnf); (first | refine Cnd.yes ?_ | refine Cnd.no ?_ | refine And.intro rfl ?_ | refine And.intro (by omega) ?_ | (refine And.intro ?_ ?_; focus (simp only [IntKind.wrap_i64, IntKind.wrap_u64, IntKind.wrap_u32]; omega)) | (refine And.intro ?_ ?_; focus (simp only [zl1, zl2, zl3, zl4, zl5, zl6, zl7, zl8] <;> omega))))
          conv => whnf
          rw [toI_w (by omega), e2, hget (by omega), show cs.length - 8 + (n - (k + 1)) = cs.length - 1 - k by omega]
          refine Cnd.ff (by simp) ?_
          repeat ((conv => whnf); (first | refine Cnd.yes ?_ | refine Cnd.no ?_ | refine And.intro rfl ?_ | refine And.intro (by omega) ?_ | (refine And.intro ?_ ?_; focus (simp only [IntKind.wrap_i64, IntKind.wrap_u64, IntKind.wrap_u32]; omega)) | (refine And.intro ?_ ?_; focus (simp only [zl1, zl2, zl3, zl4, zl5, zl6, zl7, zl8] <;> omega))))
          conv => whnf
          refine ⟨n - (k + 1), [0, 1, 2, 3], tmk 105 0 [(0, .slc 0 1 0 cs.length), (4, .ptr 3 0 0 0), (7, .v (.int .i64 n)), (8, .v (.int .i64 (k + 1 : Nat)))], rHp e cs P (S.take (n - (k + 1))) (S.drop (n - (k + 1))), by omega, ?_⟩
          repeat ((conv => whnf); (first | refine Cnd.yes ?_ | refine Cnd.no ?_ | refine And.intro rfl ?_ | refine And.intro (by omega) ?_ | (refine And.intro ?_ ?_; focus (simp only [IntKind.wrap_i64, IntKind.wrap_u64, IntKind.wrap_u32]; omega)) | (refine And.intro ?_ ?_; focus (simp only [zl1, zl2, zl3, zl4, zl5, zl6, zl7, zl8] <;> omega))))
          conv => whnf
          exact ⟨k + 1, by omega, rfl, rfl, (tmkK_eq _ _ _ _).mpr rfl, rfl⟩
        · have hkn : k = n := by have := of_decide_eq_false hge; omega
          subst hkn
          rw [Nat.sub_self, List.take_zero, List.drop_zero]
          repeat ((conv => whnf); (first | refine Cnd.yes ?_ | refine Cnd.no ?_ | refine And.intro rfl ?_ | refine And.intro (by omega) ?_ | (refine And.intro ?_ ?_; focus (simp only [IntKind.wrap_i64, IntKind.wrap_u64, IntKind.wrap_u32]; omega)) | (refine And.intro ?_ ?_; focus (simp only [zl1, zl2, zl3, zl4, zl5, zl6, zl7, zl8] <;> omega))))
          conv => whnf
          refine .inl ⟨P, S, rfl, rfl, ?_⟩
          repeat ((conv => whnf); (first | refine Cnd.yes ?_ | refine Cnd.no ?_ | refine And.intro rfl ?_ | refine And.intro (by omega) ?_ | (refine And.intro ?_ ?_; focus (simp only [IntKind.wrap_i64, IntKind.wrap_u64, IntKind.wrap_u32]; omega)) | (refine And.intro ?_ ?_; focus (simp only [zl1, zl2, zl3, zl4, zl5, zl6, zl7, zl8] <;> omega))))
          conv => whnf
          exact hK _
end Go.Proofs.YtmhgiffhmcigpaaDoor
