/-
  MemLines, walked.
-/
import Derived.Test.YtncninjgfllcdaaDoorCm
import Derived.Test.YtncninjgfllcdaaDoorCl
namespace Go.Proofs.YtncninjgfllcdaaDoor
open Go Go.Vc
set_option maxRecDepth 100000
noncomputable def specs9 : Nat → Option Vc.Trans := tget [(31, frameT putS'), (34, frameT fairS), (36, frameT getS), (12, frameT hasS), (15, frameT loadS), (14, frameT storeS), (9, frameT newS), (8, frameT firstS), (13, frameT lineS), (26, frameT setlineS), (22, frameT lineofS), (17, frameT partS), (18, frameT withS), (20, frameT samelineS)]
noncomputable def G9 : Nat → Option Vc.Trans := tabG specs9 (tget tab) 5
theorem G9_ok : GOK Tryd.prog G9 := tabG_ok (GOK.cons (frame_ok put_ok) (GOK.cons (frame_ok fair_ok) (GOK.cons (frame_ok get_ok) (GOK.cons (frame_ok has_ok) (GOK.cons (frame_ok load_ok) (GOK.cons (frame_ok store_ok) (GOK.cons (frame_ok new_ok) (GOK.cons (frame_ok first_ok) (GOK.cons (frame_ok line_ok) (GOK.cons (frame_ok setline_ok) (GOK.cons (frame_ok lineof_ok) (GOK.cons (frame_ok part_ok) (GOK.cons (frame_ok with_ok) (GOK.cons (frame_ok sameline_ok) .nil)))))))))))))) tab_ok 5
theorem modn (x : Int) (b : Nat) (hb : 0 < b) (hb2 : b < 1000) : ∃ n : Nat, n < b ∧ (IntKind.i64.wrap (x.tmod b + b)).tmod b = n := by
  have h1 : -(b : Int) < Int.tmod x b := Int.lt_tmod_of_pos x (by omega)
  have h2 : Int.tmod x b < b := Int.tmod_lt_of_pos x (by omega)
  have e : IntKind.i64.wrap (Int.tmod x b + b) = Int.tmod x b + b := by rw [IntKind.wrap_i64]; omega
  rw [e, Int.tmod_eq_emod_of_nonneg (by omega)]
  have h3 := Int.emod_nonneg (Int.tmod x b + b) (show (b : Int) ≠ 0 by omega)
  have h4 := Int.emod_lt_of_pos (Int.tmod x b + b) (show (0 : Int) < b by omega)
  exact ⟨((Int.tmod x b + b) % b).toNat, by omega, by omega⟩
def szN (q : Nat) : Nat := [1, 2, 4].getD q 4
theorem szN_is (q : Nat) : szN q = 1 ∨ szN q = 2 ∨ szN q = 4 := by
  rcases q with _ | _ | _ | q <;> simp [szN]
theorem szN_row {q : Nat} (hq : q < 3) : toI (cellAt [[Value.int IntKind.i64 1], [Value.int IntKind.i64 2], [Value.int IntKind.i64 4]] (0 + (q : Int).toNat) 0) = (szN q : Nat) := by
  rcases (show q = 0 ∨ q = 1 ∨ q = 2 by omega) with rfl | rfl | rfl <;> rfl
theorem clear_val {addr s : Nat} (hs : s = 1 ∨ s = 2 ∨ s = 4) :
    IntKind.u32.wrap (BitVec.ofInt IntKind.u32.bits ((addr : Int).tmod 256) &&& ~~~BitVec.ofInt IntKind.u32.bits (IntKind.u32.wrap (IntKind.i64.wrap ((s : Int) - 1)))).toNat = ((addr % 256 / s * s : Nat) : Int) := by
  have e1 : ((addr : Int).tmod 256) = ((addr % 256 : Nat) : Int) := by rw [Int.tmod_eq_emod_of_nonneg (by omega)]; omega
  have e2 : IntKind.u32.wrap (IntKind.i64.wrap ((s : Int) - 1)) = ((s - 1 : Nat) : Int) := by rcases hs with rfl | rfl | rfl <;> decide
  have h := clear_low (addr % 256) (Nat.mod_lt _ (by omega))
  rw [e1, e2, andn32 (by omega) (by omega)]
  rcases hs with rfl | rfl | rfl
  · rw [show 1 - 1 = 0 from rfl, h.1, Nat.div_one, Nat.mul_one]
  · rw [show 2 - 1 = 1 from rfl, h.2.1]
  · rw [show 4 - 1 = 3 from rfl, h.2.2]
set_option maxHeartbeats 4000000 in
theorem lines_run (M : HL) (K : SV → List Ent → HL → Prop) (ws : Nat → Nat) (hw : ∀ i, ws i < 4294967296) (i : Int) (addr : Nat) (v : Nat) (hv : v < 4294967296) (size : Int) (hK : ∀ hp, K (.v (.bool true)) hp M) :
    runF G9 pf7 [lnV ws, .v (.int .i64 i), .v (.int .u32 addr), .v (.int .u32 v), .v (.int .i64 size)] [] M K := by
  obtain ⟨n, hn, hi⟩ := modn i 16 (by omega) (by omega)
  obtain ⟨q, hq, hs⟩ := modn size 3 (by omega) (by omega)
  repeat ((conv => whnf); (first | refine Cnd.yes ?_ | refine Cnd.no ?_ | refine And.intro rfl ?_ | refine And.intro (by omega) ?_ | (refine And.intro ?_ ?_; focus (simp only [IntKind.wrap_i64, IntKind.wrap_u64, IntKind.wrap_u32]; omega)) | (refine And.intro ?_ ?_; focus (first | (simp only [tblOf_len, List.length_map, List.length_append, List.length_cons, List.length_nil, List.length_take, List.length_drop, List.length_replicate]; omega) | (simp only [tblOf_len, List.length_map, List.length_append, List.length_cons, List.length_nil, List.length_take, List.length_drop, List.length_replicate]; done)))))
  conv => whnf
  rw [show (16 : Int) = ((16 : Nat) : Int) from rfl, hi, show (3 : Int) = ((3 : Nat) : Int) from rfl, hs]
  repeat ((conv => whnf); (first | refine Cnd.yes ?_ | refine Cnd.no ?_ | refine And.intro rfl ?_ | refine And.intro (by omega) ?_ | (refine And.intro ?_ ?_; focus (simp only [IntKind.wrap_i64, IntKind.wrap_u64, IntKind.wrap_u32]; omega)) | (refine And.intro ?_ ?_; focus (first | (simp only [tblOf_len, List.length_map, List.length_append, List.length_cons, List.length_nil, List.length_take, List.length_drop, List.length_replicate]; omega) | (simp only [tblOf_len, List.length_map, List.length_append, List.length_cons, List.length_nil, List.length_take, List.length_drop, List.length_replicate]; done)))))
  conv => whnf
  rw [szN_row hq]
  have h1 := szN_is q
  generalize szN q = s at *
  rw [clear_val h1]
  obtain ⟨a, ha⟩ : ∃ a, addr % 256 / s * s = a := ⟨_, rfl⟩
  have ha2 : a < 256 ∧ a % s = 0 ∧ a % 4 + s ≤ 4 := by
    rcases h1 with rfl | rfl | rfl <;> omega
  rw [ha]
  repeat ((conv => whnf); (first | refine Cnd.yes ?_ | refine Cnd.no ?_ | refine And.intro rfl ?_ | refine And.intro (by omega) ?_ | (refine And.intro ?_ ?_; focus (simp only [IntKind.wrap_i64, IntKind.wrap_u64, IntKind.wrap_u32]; omega)) | (refine And.intro ?_ ?_; focus (first | (simp only [tblOf_len, List.length_map, List.length_append, List.length_cons, List.length_nil, List.length_take, List.length_drop, List.length_replicate]; omega) | (simp only [tblOf_len, List.length_map, List.length_append, List.length_cons, List.length_nil, List.length_take, List.length_drop, List.length_replicate]; done)))))
  conv => whnf
  refine .inr (.inl ⟨256, rfl, rfl, ⟨by omega, by omega, by omega⟩, ?_⟩)
  repeat ((conv => whnf); (first | refine Cnd.yes ?_ | refine Cnd.no ?_ | refine And.intro rfl ?_ | refine And.intro (by omega) ?_ | (refine And.intro ?_ ?_; focus (simp only [IntKind.wrap_i64, IntKind.wrap_u64, IntKind.wrap_u32]; omega)) | (refine And.intro ?_ ?_; focus (first | (simp only [tblOf_len, List.length_map, List.length_append, List.length_cons, List.length_nil, List.length_take, List.length_drop, List.length_replicate]; omega) | (simp only [tblOf_len, List.length_map, List.length_append, List.length_cons, List.length_nil, List.length_take, List.length_drop, List.length_replicate]; done)))))
  conv => whnf
  refine ⟨256, n, iniC [] 0, ws, rfl, rfl, by omega, by omega, hw, ?_⟩
  have hc1 := setC_lt (iniC_lt [] 0) n ws 4
  generalize setC (iniC [] 0) n ws 4 = c1 at *
  repeat ((conv => whnf); (first | refine Cnd.yes ?_ | refine Cnd.no ?_ | refine And.intro rfl ?_ | refine And.intro (by omega) ?_ | (refine And.intro ?_ ?_; focus (simp only [IntKind.wrap_i64, IntKind.wrap_u64, IntKind.wrap_u32]; omega)) | (refine And.intro ?_ ?_; focus (first | (simp only [tblOf_len, List.length_map, List.length_append, List.length_cons, List.length_nil, List.length_take, List.length_drop, List.length_replicate]; omega) | (simp only [tblOf_len, List.length_map, List.length_append, List.length_cons, List.length_nil, List.length_take, List.length_drop, List.length_replicate]; done)))))
  conv => whnf
  refine ⟨a, rfl, rfl, by omega, ?_⟩
  repeat ((conv => whnf); (first | refine Cnd.yes ?_ | refine Cnd.no ?_ | refine And.intro rfl ?_ | refine And.intro (by omega) ?_ | (refine And.intro ?_ ?_; focus (simp only [IntKind.wrap_i64, IntKind.wrap_u64, IntKind.wrap_u32]; omega)) | (refine And.intro ?_ ?_; focus (first | (simp only [tblOf_len, List.length_map, List.length_append, List.length_cons, List.length_nil, List.length_take, List.length_drop, List.length_replicate]; omega) | (simp only [tblOf_len, List.length_map, List.length_append, List.length_cons, List.length_nil, List.length_take, List.length_drop, List.length_replicate]; done)))))
  conv => whnf
  refine .inr ⟨256, a / 16, c1, rfl, rfl, by omega, by omega, hc1, ?_⟩
  repeat ((conv => whnf); (first | refine Cnd.yes ?_ | refine Cnd.no ?_ | refine And.intro rfl ?_ | refine And.intro (by omega) ?_ | (refine And.intro ?_ ?_; focus (simp only [IntKind.wrap_i64, IntKind.wrap_u64, IntKind.wrap_u32]; omega)) | (refine And.intro ?_ ?_; focus (first | (simp only [tblOf_len, List.length_map, List.length_append, List.length_cons, List.length_nil, List.length_take, List.length_drop, List.length_replicate]; omega) | (simp only [tblOf_len, List.length_map, List.length_append, List.length_cons, List.length_nil, List.length_take, List.length_drop, List.length_replicate]; done)))))
  conv => whnf
  refine ⟨256, a, v, c1, s, rfl, rfl, by omega, by omega, hv, ?_⟩
  have hf : fairB a s = true := decide_eq_true ⟨by omega, by rw [Int.toNat_natCast]; exact ha2.2.1⟩
  have hb : hasB 256 a s = true := by
    unfold hasB
    rw [hf, Bool.true_and]
    refine decide_eq_true ?_
    rcases h1 with rfl | rfl | rfl <;> omega
  unfold storeC
  rw [hb, if_pos rfl, show ((s : Nat) : Int).toNat = s from rfl]
  have hc2 : ∀ j, putC c1 a s v j < 256 := putC_lt hc1 a s v
  have hlp := fun k (hk : k < 4) => lnW_put hc1 v h1 ha2.2.2 hk
  have hpg := part_get hc2 h1 ha2.2.2
  have hW : lnV (withL (lnW c1 (a / 16)) a s v) = lnV (lnW (putC c1 a s v) (a / 16)) := by
    have e : ∀ k, k < 4 → withL (lnW c1 (a / 16)) a s v k = lnW (putC c1 a s v) (a / 16) k := fun k hk => by
      rw [hlp k hk]
      unfold withL
      rw [hf, Int.toNat_natCast]
      simp only [true_and]
    simp only [lnV, e 0 (by omega), e 1 (by omega), e 2 (by omega), e 3 (by omega)]
  generalize putC c1 a s v = c2 at *
  repeat ((conv => whnf); (first | refine Cnd.yes ?_ | refine Cnd.no ?_ | refine And.intro rfl ?_ | refine And.intro (by omega) ?_ | (refine And.intro ?_ ?_; focus (simp only [IntKind.wrap_i64, IntKind.wrap_u64, IntKind.wrap_u32]; omega)) | (refine And.intro ?_ ?_; focus (first | (simp only [tblOf_len, List.length_map, List.length_append, List.length_cons, List.length_nil, List.length_take, List.length_drop, List.length_replicate]; omega) | (simp only [tblOf_len, List.length_map, List.length_append, List.length_cons, List.length_nil, List.length_take, List.length_drop, List.length_replicate]; done)))))
  conv => whnf
  refine ⟨a, rfl, rfl, by omega, ?_⟩
  repeat ((conv => whnf); (first | refine Cnd.yes ?_ | refine Cnd.no ?_ | refine And.intro rfl ?_ | refine And.intro (by omega) ?_ | (refine And.intro ?_ ?_; focus (simp only [IntKind.wrap_i64, IntKind.wrap_u64, IntKind.wrap_u32]; omega)) | (refine And.intro ?_ ?_; focus (first | (simp only [tblOf_len, List.length_map, List.length_append, List.length_cons, List.length_nil, List.length_take, List.length_drop, List.length_replicate]; omega) | (simp only [tblOf_len, List.length_map, List.length_append, List.length_cons, List.length_nil, List.length_take, List.length_drop, List.length_replicate]; done)))))
  conv => whnf
  refine .inr ⟨256, a / 16, c2, rfl, rfl, by omega, by omega, hc2, ?_⟩
  repeat ((conv => whnf); (first | refine Cnd.yes ?_ | refine Cnd.no ?_ | refine And.intro rfl ?_ | refine And.intro (by omega) ?_ | (refine And.intro ?_ ?_; focus (simp only [IntKind.wrap_i64, IntKind.wrap_u64, IntKind.wrap_u32]; omega)) | (refine And.intro ?_ ?_; focus (first | (simp only [tblOf_len, List.length_map, List.length_append, List.length_cons, List.length_nil, List.length_take, List.length_drop, List.length_replicate]; omega) | (simp only [tblOf_len, List.length_map, List.length_append, List.length_cons, List.length_nil, List.length_take, List.length_drop, List.length_replicate]; done)))))
  conv => whnf
  refine ⟨true, 256, a, c2, s, rfl, rfl, by omega, by omega, hc2, ?_⟩
  rw [hb, if_pos rfl, show ((s : Nat) : Int).toNat = s from rfl]
  repeat ((conv => whnf); (first | refine Cnd.yes ?_ | refine Cnd.no ?_ | refine And.intro rfl ?_ | refine And.intro (by omega) ?_ | (refine And.intro ?_ ?_; focus (simp only [IntKind.wrap_i64, IntKind.wrap_u64, IntKind.wrap_u32]; omega)) | (refine And.intro ?_ ?_; focus (first | (simp only [tblOf_len, List.length_map, List.length_append, List.length_cons, List.length_nil, List.length_take, List.length_drop, List.length_replicate]; omega) | (simp only [tblOf_len, List.length_map, List.length_append, List.length_cons, List.length_nil, List.length_take, List.length_drop, List.length_replicate]; done)))))
  conv => whnf
  refine ⟨lnW c1 (a / 16), a, s, v, rfl, rfl, fun k => getN_lt hc1 _ 4, hv, by omega, ?_⟩
  rw [hW]
  repeat ((conv => whnf); (first | refine Cnd.yes ?_ | refine Cnd.no ?_ | refine And.intro rfl ?_ | refine And.intro (by omega) ?_ | (refine And.intro ?_ ?_; focus (simp only [IntKind.wrap_i64, IntKind.wrap_u64, IntKind.wrap_u32]; omega)) | (refine And.intro ?_ ?_; focus (first | (simp only [tblOf_len, List.length_map, List.length_append, List.length_cons, List.length_nil, List.length_take, List.length_drop, List.length_replicate]; omega) | (simp only [tblOf_len, List.length_map, List.length_append, List.length_cons, List.length_nil, List.length_take, List.length_drop, List.length_replicate]; done)))))
  conv => whnf
  intro Mr hMr
  repeat ((conv => whnf); (first | refine Cnd.yes ?_ | refine Cnd.no ?_ | refine And.intro rfl ?_ | refine And.intro (by omega) ?_ | (refine And.intro ?_ ?_; focus (simp only [IntKind.wrap_i64, IntKind.wrap_u64, IntKind.wrap_u32]; omega)) | (refine And.intro ?_ ?_; focus (first | (simp only [tblOf_len, List.length_map, List.length_append, List.length_cons, List.length_nil, List.length_take, List.length_drop, List.length_replicate]; omega) | (simp only [tblOf_len, List.length_map, List.length_append, List.length_cons, List.length_nil, List.length_take, List.length_drop, List.length_replicate]; done)))))
  conv => whnf
  refine ⟨lnW c2 (a / 16), rfl, rfl, ?_⟩
  repeat ((conv => whnf); (first | refine Cnd.yes ?_ | refine Cnd.no ?_ | refine And.intro rfl ?_ | refine And.intro (by omega) ?_ | (refine And.intro ?_ ?_; focus (simp only [IntKind.wrap_i64, IntKind.wrap_u64, IntKind.wrap_u32]; omega)) | (refine And.intro ?_ ?_; focus (first | (simp only [tblOf_len, List.length_map, List.length_append, List.length_cons, List.length_nil, List.length_take, List.length_drop, List.length_replicate]; omega) | (simp only [tblOf_len, List.length_map, List.length_append, List.length_cons, List.length_nil, List.length_take, List.length_drop, List.length_replicate]; done)))))
  conv => whnf
  intro Mr hMr
  repeat ((conv => whnf); (first | refine Cnd.yes ?_ | refine Cnd.no ?_ | refine And.intro rfl ?_ | refine And.intro (by omega) ?_ | (refine And.intro ?_ ?_; focus (simp only [IntKind.wrap_i64, IntKind.wrap_u64, IntKind.wrap_u32]; omega)) | (refine And.intro ?_ ?_; focus (first | (simp only [tblOf_len, List.length_map, List.length_append, List.length_cons, List.length_nil, List.length_take, List.length_drop, List.length_replicate]; omega) | (simp only [tblOf_len, List.length_map, List.length_append, List.length_cons, List.length_nil, List.length_take, List.length_drop, List.length_replicate]; done)))))
  conv => whnf
  refine ⟨lnW c2 (a / 16), a, s, rfl, rfl, fun k => getN_lt hc2 _ 4, by omega, ?_⟩
  have hpN : partN (lnW c2 (a / 16)) a s = getN c2 a s := by
    unfold partN
    rw [hf, if_pos rfl, Int.toNat_natCast]
    exact hpg
  rw [hpN]
  repeat ((conv => whnf); (first | refine Cnd.yes ?_ | refine Cnd.no ?_ | refine And.intro rfl ?_ | refine And.intro (by omega) ?_ | (refine And.intro ?_ ?_; focus (simp only [IntKind.wrap_i64, IntKind.wrap_u64, IntKind.wrap_u32]; omega)) | (refine And.intro ?_ ?_; focus (first | (simp only [tblOf_len, List.length_map, List.length_append, List.length_cons, List.length_nil, List.length_take, List.length_drop, List.length_replicate]; omega) | (simp only [tblOf_len, List.length_map, List.length_append, List.length_cons, List.length_nil, List.length_take, List.length_drop, List.length_replicate]; done)))))
  conv => whnf
  rw [show (((getN c2 a s : Nat) : Int) == ((getN c2 a s : Nat) : Int)) = true from by simp]
  exact hK _
end Go.Proofs.YtncninjgfllcdaaDoor
