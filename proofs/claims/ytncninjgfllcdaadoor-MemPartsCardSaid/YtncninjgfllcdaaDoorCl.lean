/-
  MemParts, walked.
-/
import Derived.Test.YtncninjgfllcdaaDoorCk
namespace Go.Proofs.YtncninjgfllcdaaDoor
open Go Go.Vc
set_option maxRecDepth 100000
theorem lineof_run (M : HL) (K : SV → List Ent → HL → Prop) (addr : Nat) (ha : addr < 4294967296) (hK : K (.v (.int .i64 (addr / 16 : Nat))) [] M) :
    runF G0 pf22 [.v (.int .u32 addr)] [] M K := by
  repeat ((conv => whnf); (first | refine Cnd.yes ?_ | refine Cnd.no ?_ | refine And.intro rfl ?_ | refine And.intro (by omega) ?_ | (refine And.intro ?_ ?_; focus (simp only [IntKind.wrap_i64, IntKind.wrap_u64, IntKind.wrap_u32]; omega)) | (refine And.intro ?_ ?_; focus (first | (simp only [tblOf_len, List.length_map, List.length_append, List.length_cons, List.length_nil, List.length_take, List.length_drop, List.length_replicate]; omega) | (simp only [tblOf_len, List.length_map, List.length_append, List.length_cons, List.length_nil, List.length_take, List.length_drop, List.length_replicate]; done)))))
  conv => whnf
  have e : IntKind.i64.wrap (IntKind.u32.wrap ((addr : Int).tdiv 16)) = ((addr / 16 : Nat) : Int) := by
    rw [Int.tdiv_eq_ediv_of_nonneg (by omega), IntKind.wrap_u32, IntKind.wrap_i64]; omega
  rw [e]
  exact hK
def lineofS : Vc.Spec := fun args hp _ K => ∃ addr : Nat, args = [.v (.int .u32 addr)] ∧ hp = [] ∧ addr < 4294967296 ∧ K (.v (.int .i64 (addr / 16 : Nat))) []
theorem lineof_ok : SOK Tryd.prog 22 lineofS := by
  refine TOK.weaken (runF_eq G0_ok mixed at22.1 at22.2 pf22_eq) fun args hp M K h => ?_
  obtain ⟨addr, rfl, rfl, h1, h2⟩ := h
  exact lineof_run M K addr h1 h2
noncomputable def specs8 : Nat → Option Vc.Trans := tget [(8, frameT firstS), (17, frameT partS), (18, frameT withS), (19, frameT partS), (21, frameT withS), (20, frameT samelineS), (22, frameT lineofS)]
noncomputable def G8 : Nat → Option Vc.Trans := tabG specs8 (tget tab) 5
theorem G8_ok : GOK Tryd.prog G8 := tabG_ok (GOK.cons (frame_ok first_ok) (GOK.cons (frame_ok part_ok) (GOK.cons (frame_ok with_ok) (GOK.cons (frame_ok rpart_ok) (GOK.cons (frame_ok rwith_ok) (GOK.cons (frame_ok sameline_ok) (GOK.cons (frame_ok lineof_ok) .nil))))))) tab_ok 5
theorem withL_lt {c : Nat → Nat} {addr : Nat} {size : Int} {v : Nat} (hc : ∀ i, c i < 4294967296) : ∀ i, withL c addr size v i < 4294967296 := by
  intro i
  unfold withL
  split
  · rename_i h
    obtain ⟨hs, h2, _, _⟩ := fair_cases h.1
    exact turn_lt v (hc i) (by omega)
  · exact hc i
theorem withL_byte {c : Nat → Nat} {addr : Nat} {size : Int} {v : Nat} (hc : ∀ i, c i < 4294967296) (hv : v < 4294967296) (hf : fairB addr size = true) (i : Nat) (hi : i < 16) :
    partN (withL c addr size v) i 1 = if addr % 16 ≤ i ∧ i < addr % 16 + size.toNat then v / 2 ^ (8 * (i - addr % 16)) % 256 else partN c i 1 := by
  obtain ⟨hs, h2, h4, h5⟩ := fair_cases hf
  have h1 : fairB i 1 = true := by simp [fairB, Nat.mod_one]
  have hs' : size.toNat = 1 ∨ size.toNat = 2 ∨ size.toNat = 4 := by omega
  unfold partN
  rw [if_pos h1, if_pos h1, show 8 * (1 : Int).toNat = 8 from rfl]
  unfold withL
  by_cases hq : i / 4 % 4 = addr / 4 % 4
  · rw [if_pos ⟨hf, hq⟩, turn_byte hs' h2 (by omega) (hc _) hv, hq]
    by_cases hr : addr % 4 ≤ i % 4 ∧ i % 4 < addr % 4 + size.toNat
    · rw [if_pos hr, if_pos (by omega), show i % 4 - addr % 4 = i - addr % 16 by omega]
    · rw [if_neg hr, if_neg (by omega)]
  · rw [if_neg (fun h => hq h.2), if_neg (by omega)]
theorem fair_no {addr : Nat} {size : Int} (hf : fairB addr size = false) (hs : size = 1 ∨ size = 2 ∨ size = 4) : addr % size.toNat ≠ 0 := by
  intro h
  unfold fairB at hf
  exact absurd ⟨hs, h⟩ (of_decide_eq_false hf)
set_option maxHeartbeats 4000000 in
theorem parts_no (M : HL) (K : SV → List Ent → HL → Prop) (c : Nat → Nat) (hc : ∀ i, c i < 4294967296) (addr : Nat) (ha : addr < 4294967296) (size : Int) (v : Nat) (hv : v < 4294967296) (hf : fairB addr size = false) (hK : ∀ hp, K (.v (.bool true)) hp M) :
    runF G8 pf5 [lnV c, .v (.int .u32 addr), .v (.int .i64 size), .v (.int .u32 v)] [] M K := by
  have e16 : IntKind.i64.wrap (IntKind.u32.wrap ((addr : Int).tdiv 16)) = ((addr / 16 : Nat) : Int) := by
    rw [Int.tdiv_eq_ediv_of_nonneg (by omega), IntKind.wrap_u32, IntKind.wrap_i64]; omega
  have hw : IntKind.i64.wrap (addr : Int) = addr := by rw [IntKind.wrap_i64]; omega
  have e0 : (IntKind.i64.wrap (addr : Int)).tmod 16 = ((addr % 16 : Nat) : Int) := by rw [hw, Int.tmod_eq_emod_of_nonneg (by omega)]; omega
  have hm : ∀ n : Int, (n = 1 ∨ n = 2 ∨ n = 4) → (((IntKind.i64.wrap (addr : Int)).tmod (if 1 > n then 1 else n)) == 0) = decide (addr % n.toNat = 0) := by
    intro n hn
    rw [hw, if_neg (by omega), Int.tmod_eq_emod_of_nonneg (by omega)]
    have e : (addr : Int) % n = ((addr % n.toNat : Nat) : Int) := by rcases hn with rfl | rfl | rfl <;> rfl
    rw [e]
    by_cases h : addr % n.toNat = 0
    · rw [decide_eq_true h]; simp only [beq_iff_eq]; omega
    · rw [decide_eq_false h]; simp only [beq_eq_false_iff_ne]; omega
  repeat ((conv => whnf); (first | refine Cnd.yes ?_ | refine Cnd.no ?_ | refine And.intro rfl ?_ | refine And.intro (by omega) ?_ | (refine And.intro ?_ ?_; focus (simp only [IntKind.wrap_i64, IntKind.wrap_u64, IntKind.wrap_u32]; omega)) | (refine And.intro ?_ ?_; focus (first | (simp only [tblOf_len, List.length_map, List.length_append, List.length_cons, List.length_nil, List.length_take, List.length_drop, List.length_replicate]; omega) | (simp only [tblOf_len, List.length_map, List.length_append, List.length_cons, List.length_nil, List.length_take, List.length_drop, List.length_replicate]; done)))))
  conv => whnf
  refine ⟨c, addr, size, rfl, rfl, hc, ha, ?_⟩
  repeat ((conv => whnf); (first | refine Cnd.yes ?_ | refine Cnd.no ?_ | refine And.intro rfl ?_ | refine And.intro (by omega) ?_ | (refine And.intro ?_ ?_; focus (simp only [IntKind.wrap_i64, IntKind.wrap_u64, IntKind.wrap_u32]; omega)) | (refine And.intro ?_ ?_; focus (first | (simp only [tblOf_len, List.length_map, List.length_append, List.length_cons, List.length_nil, List.length_take, List.length_drop, List.length_replicate]; omega) | (simp only [tblOf_len, List.length_map, List.length_append, List.length_cons, List.length_nil, List.length_take, List.length_drop, List.length_replicate]; done)))))
  conv => whnf
  refine ⟨c, addr, size, v, rfl, rfl, hc, hv, ha, ?_⟩
  repeat ((conv => whnf); (first | refine Cnd.yes ?_ | refine Cnd.no ?_ | refine And.intro rfl ?_ | refine And.intro (by omega) ?_ | (refine And.intro ?_ ?_; focus (simp only [IntKind.wrap_i64, IntKind.wrap_u64, IntKind.wrap_u32]; omega)) | (refine And.intro ?_ ?_; focus (first | (simp only [tblOf_len, List.length_map, List.length_append, List.length_cons, List.length_nil, List.length_take, List.length_drop, List.length_replicate]; omega) | (simp only [tblOf_len, List.length_map, List.length_append, List.length_cons, List.length_nil, List.length_take, List.length_drop, List.length_replicate]; done)))))
  conv => whnf
  intro Mr hMr
  repeat ((conv => whnf); (first | refine Cnd.yes ?_ | refine Cnd.no ?_ | refine And.intro rfl ?_ | refine And.intro (by omega) ?_ | (refine And.intro ?_ ?_; focus (simp only [IntKind.wrap_i64, IntKind.wrap_u64, IntKind.wrap_u32]; omega)) | (refine And.intro ?_ ?_; focus (first | (simp only [tblOf_len, List.length_map, List.length_append, List.length_cons, List.length_nil, List.length_take, List.length_drop, List.length_replicate]; omega) | (simp only [tblOf_len, List.length_map, List.length_append, List.length_cons, List.length_nil, List.length_take, List.length_drop, List.length_replicate]; done)))))
  conv => whnf
  refine ⟨c, addr, size, rfl, rfl, hc, ha, ?_⟩
  repeat ((conv => whnf); (first | refine Cnd.yes ?_ | refine Cnd.no ?_ | refine And.intro rfl ?_ | refine And.intro (by omega) ?_ | (refine And.intro ?_ ?_; focus (simp only [IntKind.wrap_i64, IntKind.wrap_u64, IntKind.wrap_u32]; omega)) | (refine And.intro ?_ ?_; focus (first | (simp only [tblOf_len, List.length_map, List.length_append, List.length_cons, List.length_nil, List.length_take, List.length_drop, List.length_replicate]; omega) | (simp only [tblOf_len, List.length_map, List.length_append, List.length_cons, List.length_nil, List.length_take, List.length_drop, List.length_replicate]; done)))))
  conv => whnf
  refine Cnd.ff (by simp) ?_
  repeat ((conv => whnf); (first | refine Cnd.yes ?_ | refine Cnd.no ?_ | refine And.intro rfl ?_ | refine And.intro (by omega) ?_ | (refine And.intro ?_ ?_; focus (simp only [IntKind.wrap_i64, IntKind.wrap_u64, IntKind.wrap_u32]; omega)) | (refine And.intro ?_ ?_; focus (first | (simp only [tblOf_len, List.length_map, List.length_append, List.length_cons, List.length_nil, List.length_take, List.length_drop, List.length_replicate]; omega) | (simp only [tblOf_len, List.length_map, List.length_append, List.length_cons, List.length_nil, List.length_take, List.length_drop, List.length_replicate]; done)))))
  conv => whnf
  intro Mr hMr
  repeat ((conv => whnf); (first | refine Cnd.yes ?_ | refine Cnd.no ?_ | refine And.intro rfl ?_ | refine And.intro (by omega) ?_ | (refine And.intro ?_ ?_; focus (simp only [IntKind.wrap_i64, IntKind.wrap_u64, IntKind.wrap_u32]; omega)) | (refine And.intro ?_ ?_; focus (first | (simp only [tblOf_len, List.length_map, List.length_append, List.length_cons, List.length_nil, List.length_take, List.length_drop, List.length_replicate]; omega) | (simp only [tblOf_len, List.length_map, List.length_append, List.length_cons, List.length_nil, List.length_take, List.length_drop, List.length_replicate]; done)))))
  conv => whnf
  refine ⟨c, addr, size, v, rfl, rfl, hc, hv, ha, ?_⟩
  repeat ((conv => whnf); (first | refine Cnd.yes ?_ | refine Cnd.no ?_ | refine And.intro rfl ?_ | refine And.intro (by omega) ?_ | (refine And.intro ?_ ?_; focus (simp only [IntKind.wrap_i64, IntKind.wrap_u64, IntKind.wrap_u32]; omega)) | (refine And.intro ?_ ?_; focus (first | (simp only [tblOf_len, List.length_map, List.length_append, List.length_cons, List.length_nil, List.length_take, List.length_drop, List.length_replicate]; omega) | (simp only [tblOf_len, List.length_map, List.length_append, List.length_cons, List.length_nil, List.length_take, List.length_drop, List.length_replicate]; done)))))
  conv => whnf
  intro Mr hMr
  repeat ((conv => whnf); (first | refine Cnd.yes ?_ | refine Cnd.no ?_ | refine And.intro rfl ?_ | refine And.intro (by omega) ?_ | (refine And.intro ?_ ?_; focus (simp only [IntKind.wrap_i64, IntKind.wrap_u64, IntKind.wrap_u32]; omega)) | (refine And.intro ?_ ?_; focus (first | (simp only [tblOf_len, List.length_map, List.length_append, List.length_cons, List.length_nil, List.length_take, List.length_drop, List.length_replicate]; omega) | (simp only [tblOf_len, List.length_map, List.length_append, List.length_cons, List.length_nil, List.length_take, List.length_drop, List.length_replicate]; done)))))
  conv => whnf
  refine ⟨withL c addr size v, rfl, rfl, ?_⟩
  repeat ((conv => whnf); (first | refine Cnd.yes ?_ | refine Cnd.no ?_ | refine And.intro rfl ?_ | refine And.intro (by omega) ?_ | (refine And.intro ?_ ?_; focus (simp only [IntKind.wrap_i64, IntKind.wrap_u64, IntKind.wrap_u32]; omega)) | (refine And.intro ?_ ?_; focus (first | (simp only [tblOf_len, List.length_map, List.length_append, List.length_cons, List.length_nil, List.length_take, List.length_drop, List.length_replicate]; omega) | (simp only [tblOf_len, List.length_map, List.length_append, List.length_cons, List.length_nil, List.length_take, List.length_drop, List.length_replicate]; done)))))
  conv => whnf
  intro Mr hMr
  repeat ((conv => whnf); (first | refine Cnd.yes ?_ | refine Cnd.no ?_ | refine And.intro rfl ?_ | refine And.intro (by omega) ?_ | (refine And.intro ?_ ?_; focus (simp only [IntKind.wrap_i64, IntKind.wrap_u64, IntKind.wrap_u32]; omega)) | (refine And.intro ?_ ?_; focus (first | (simp only [tblOf_len, List.length_map, List.length_append, List.length_cons, List.length_nil, List.length_take, List.length_drop, List.length_replicate]; omega) | (simp only [tblOf_len, List.length_map, List.length_append, List.length_cons, List.length_nil, List.length_take, List.length_drop, List.length_replicate]; done)))))
  conv => whnf
  refine ⟨addr, rfl, rfl, ha, ?_⟩
  repeat ((conv => whnf); (first | refine Cnd.yes ?_ | refine Cnd.no ?_ | refine And.intro rfl ?_ | refine And.intro (by omega) ?_ | (refine And.intro ?_ ?_; focus (simp only [IntKind.wrap_i64, IntKind.wrap_u64, IntKind.wrap_u32]; omega)) | (refine And.intro ?_ ?_; focus (first | (simp only [tblOf_len, List.length_map, List.length_append, List.length_cons, List.length_nil, List.length_take, List.length_drop, List.length_replicate]; omega) | (simp only [tblOf_len, List.length_map, List.length_append, List.length_cons, List.length_nil, List.length_take, List.length_drop, List.length_replicate]; done)))))
  conv => whnf
  rw [e16]
  refine Cnd.ff (by simp) ?_
  repeat ((conv => whnf); (first | refine Cnd.yes ?_ | refine Cnd.no ?_ | refine And.intro rfl ?_ | refine And.intro (by omega) ?_ | (refine And.intro ?_ ?_; focus (simp only [IntKind.wrap_i64, IntKind.wrap_u64, IntKind.wrap_u32]; omega)) | (refine And.intro ?_ ?_; focus (first | (simp only [tblOf_len, List.length_map, List.length_append, List.length_cons, List.length_nil, List.length_take, List.length_drop, List.length_replicate]; omega) | (simp only [tblOf_len, List.length_map, List.length_append, List.length_cons, List.length_nil, List.length_take, List.length_drop, List.length_replicate]; done)))))
  conv => whnf
  have hp0 : partN c addr size = 0 := by unfold partN; rw [hf]; rfl
  have hw0 := withL_no (c := c) (v := v) hf
  rcases (show (size = 1 ∨ size = 2 ∨ size = 4) ∨ (size ≠ 1 ∧ size ≠ 2 ∧ size ≠ 4) by omega) with hs | ⟨h1, h2, h4⟩
  · have hb := hm size hs
    rw [decide_eq_false (fair_no hf hs)] at hb
    rcases hs with rfl | rfl | rfl
    all_goals
      repeat ((conv => whnf); (first | refine Cnd.yes ?_ | refine Cnd.no ?_ | refine And.intro rfl ?_ | refine And.intro (by omega) ?_ | (refine And.intro ?_ ?_; focus (simp only [IntKind.wrap_i64, IntKind.wrap_u64, IntKind.wrap_u32]; omega)) | (refine And.intro ?_ ?_; focus (first | (simp only [tblOf_len, List.length_map, List.length_append, List.length_cons, List.length_nil, List.length_take, List.length_drop, List.length_replicate]; omega) | (simp only [tblOf_len, List.length_map, List.length_append, List.length_cons, List.length_nil, List.length_take, List.length_drop, List.length_replicate]; done)))))
      conv => whnf
      refine Cnd.tt (by rw [hb]; rfl) ?_
      repeat ((conv => whnf); (first | refine Cnd.yes ?_ | refine Cnd.no ?_ | refine And.intro rfl ?_ | refine And.intro (by omega) ?_ | (refine And.intro ?_ ?_; focus (simp only [IntKind.wrap_i64, IntKind.wrap_u64, IntKind.wrap_u32]; omega)) | (refine And.intro ?_ ?_; focus (first | (simp only [tblOf_len, List.length_map, List.length_append, List.length_cons, List.length_nil, List.length_take, List.length_drop, List.length_replicate]; omega) | (simp only [tblOf_len, List.length_map, List.length_append, List.length_cons, List.length_nil, List.length_take, List.length_drop, List.length_replicate]; done)))))
      conv => whnf
      refine ⟨c, by rw [hw0]; rfl, rfl, ?_⟩
      repeat ((conv => whnf); (first | refine Cnd.yes ?_ | refine Cnd.no ?_ | refine And.intro rfl ?_ | refine And.intro (by omega) ?_ | (refine And.intro ?_ ?_; focus (simp only [IntKind.wrap_i64, IntKind.wrap_u64, IntKind.wrap_u32]; omega)) | (refine And.intro ?_ ?_; focus (first | (simp only [tblOf_len, List.length_map, List.length_append, List.length_cons, List.length_nil, List.length_take, List.length_drop, List.length_replicate]; omega) | (simp only [tblOf_len, List.length_map, List.length_append, List.length_cons, List.length_nil, List.length_take, List.length_drop, List.length_replicate]; done)))))
      conv => whnf
      rw [hp0]
      exact hK _
  · repeat ((conv => whnf); (first | refine Cnd.yes ?_ | refine Cnd.no ?_ | refine And.intro rfl ?_ | refine And.intro (by omega) ?_ | (refine And.intro ?_ ?_; focus (simp only [IntKind.wrap_i64, IntKind.wrap_u64, IntKind.wrap_u32]; omega)) | (refine And.intro ?_ ?_; focus (first | (simp only [tblOf_len, List.length_map, List.length_append, List.length_cons, List.length_nil, List.length_take, List.length_drop, List.length_replicate]; omega) | (simp only [tblOf_len, List.length_map, List.length_append, List.length_cons, List.length_nil, List.length_take, List.length_drop, List.length_replicate]; done)))))
    conv => whnf
    refine Cnd.ff (by simpa using h1) ?_
    repeat ((conv => whnf); (first | refine Cnd.yes ?_ | refine Cnd.no ?_ | refine And.intro rfl ?_ | refine And.intro (by omega) ?_ | (refine And.intro ?_ ?_; focus (simp only [IntKind.wrap_i64, IntKind.wrap_u64, IntKind.wrap_u32]; omega)) | (refine And.intro ?_ ?_; focus (first | (simp only [tblOf_len, List.length_map, List.length_append, List.length_cons, List.length_nil, List.length_take, List.length_drop, List.length_replicate]; omega) | (simp only [tblOf_len, List.length_map, List.length_append, List.length_cons, List.length_nil, List.length_take, List.length_drop, List.length_replicate]; done)))))
    conv => whnf
    refine Cnd.ff (by simpa using h2) ?_
    repeat ((conv => whnf); (first | refine Cnd.yes ?_ | refine Cnd.no ?_ | refine And.intro rfl ?_ | refine And.intro (by omega) ?_ | (refine And.intro ?_ ?_; focus (simp only [IntKind.wrap_i64, IntKind.wrap_u64, IntKind.wrap_u32]; omega)) | (refine And.intro ?_ ?_; focus (first | (simp only [tblOf_len, List.length_map, List.length_append, List.length_cons, List.length_nil, List.length_take, List.length_drop, List.length_replicate]; omega) | (simp only [tblOf_len, List.length_map, List.length_append, List.length_cons, List.length_nil, List.length_take, List.length_drop, List.length_replicate]; done)))))
    conv => whnf
    refine Cnd.ff (by simpa using h4) ?_
    repeat ((conv => whnf); (first | refine Cnd.yes ?_ | refine Cnd.no ?_ | refine And.intro rfl ?_ | refine And.intro (by omega) ?_ | (refine And.intro ?_ ?_; focus (simp only [IntKind.wrap_i64, IntKind.wrap_u64, IntKind.wrap_u32]; omega)) | (refine And.intro ?_ ?_; focus (first | (simp only [tblOf_len, List.length_map, List.length_append, List.length_cons, List.length_nil, List.length_take, List.length_drop, List.length_replicate]; omega) | (simp only [tblOf_len, List.length_map, List.length_append, List.length_cons, List.length_nil, List.length_take, List.length_drop, List.length_replicate]; done)))))
    conv => whnf
    refine ⟨c, by rw [hw0]; rfl, rfl, ?_⟩
    repeat ((conv => whnf); (first | refine Cnd.yes ?_ | refine Cnd.no ?_ | refine And.intro rfl ?_ | refine And.intro (by omega) ?_ | (refine And.intro ?_ ?_; focus (simp only [IntKind.wrap_i64, IntKind.wrap_u64, IntKind.wrap_u32]; omega)) | (refine And.intro ?_ ?_; focus (first | (simp only [tblOf_len, List.length_map, List.length_append, List.length_cons, List.length_nil, List.length_take, List.length_drop, List.length_replicate]; omega) | (simp only [tblOf_len, List.length_map, List.length_append, List.length_cons, List.length_nil, List.length_take, List.length_drop, List.length_replicate]; done)))))
    conv => whnf
    rw [hp0]
    exact hK _
end Go.Proofs.YtncninjgfllcdaaDoor
