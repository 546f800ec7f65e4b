/-
  Memory: Has, Load, Store, New, walked; their contracts.
-/
import Derived.Test.YtncninjgfllcdaaDoorCb
namespace Go.Proofs.YtncninjgfllcdaaDoor
open Go Go.Vc
set_option maxRecDepth 100000
set_option linter.unusedSimpArgs false
set_option linter.unusedVariables false
def putS' : Vc.Spec := fun args hp _ K => ∃ (n off len size v : Nat) (c : Nat → Nat), args = [.slc 0 1 off len, .v (.int .i64 size), .v (.int .u32 v)] ∧ hp = [.row true 5 [.int .u8] (bT c n)] ∧ off + len ≤ n ∧ size ≤ len ∧ size ≤ 4 ∧ v < 4294967296 ∧ n ≤ 65536 ∧
  K (.tup []) [.row true 5 [.int .u8] (bT (putC c off size v) n)]
theorem put_ok : SOK Tryd.prog 31 putS' := by
  refine TOK.weaken (runF_eq G0_ok mixed at31.1 at31.2 pf31_eq) fun args hp M K h => ?_
  obtain ⟨n, off, len, size, v, c, rfl, rfl, h1, h2, h3, h4, h5, h6⟩ := h
  exact put_run M K c n off len size v h1 h2 h3 h4 h5 h6
def getS : Vc.Spec := fun args hp _ K => ∃ (o : Bool) (n off len size : Nat) (c : Nat → Nat), args = [.slc 0 1 off len, .v (.int .i64 size)] ∧ hp = [.row o 5 [.int .u8] (bT c n)] ∧ off + len ≤ n ∧ size ≤ len ∧ size ≤ 4 ∧ (∀ j, c j < 256) ∧ n ≤ 65536 ∧
  K (.v (.int .u32 (getN c off size : Nat))) [.row o 5 [.int .u8] (bT c n)]
theorem get_ok : SOK Tryd.prog 36 getS := by
  refine TOK.weaken (runF_eq G0_ok mixed at36.1 at36.2 pf36_eq) fun args hp M K h => ?_
  obtain ⟨o, n, off, len, size, c, rfl, rfl, h1, h2, h3, h4, h5, h6⟩ := h
  exact get_run o M K c n off len size h1 h2 h3 h4 h5 h6
def fairS : Vc.Spec := fun args hp _ K => ∃ (addr : Nat) (size : Int), args = [.v (.int .u32 addr), .v (.int .i64 size)] ∧ addr < 4294967296 ∧ K (.v (.bool (fairB addr size))) hp
theorem fair_ok : SOK Tryd.prog 34 fairS := by
  refine TOK.weaken (runF_eq G0_ok mixed at34.1 at34.2 pf34_eq) fun args hp M K h => ?_
  obtain ⟨addr, size, rfl, h1, h2⟩ := h
  exact fair_run M K hp addr size h1 h2
noncomputable def specs1 : Nat → Option Vc.Trans := tget [(31, frameT putS'), (34, frameT fairS), (36, frameT getS)]
noncomputable def G1 : Nat → Option Vc.Trans := tabG specs1 (tget tab) 5
theorem G1_ok : GOK Tryd.prog G1 := tabG_ok (GOK.cons (frame_ok put_ok) (GOK.cons (frame_ok fair_ok) (GOK.cons (frame_ok get_ok) .nil))) tab_ok 5

def memHp (o : Bool) (n : Nat) (c : Nat → Nat) : List Ent := [cellsB o 64 [.slc 1 1 0 n], .row o 5 [.int .u8] (bT c n)]
def hasB (n addr : Nat) (size : Int) : Bool := fairB addr size && decide ((addr : Int) + size ≤ n)
theorem fairB_size {addr : Nat} {size : Int} (h : fairB addr size = true) : (size = 1 ∨ size = 2 ∨ size = 4) ∧ addr % size.toNat = 0 := of_decide_eq_true h
theorem has_run (o : Bool) (M : HL) (K : SV → List Ent → HL → Prop) (n addr : Nat) (c : Nat → Nat) (size : Int) (h3 : addr < 4294967296) (hn : n ≤ 65536)
    (hK : K (.v (.bool (hasB n addr size))) (memHp o n c) M) : runF G1 pf12 [.ptr 0 0 0 0, .v (.int .u32 addr), .v (.int .i64 size)] (memHp o n c) M K := by
  cases o
  all_goals
    repeat ((conv => whnf); (first | refine Cnd.yes ?_ | refine Cnd.no ?_ | refine And.intro rfl ?_ | refine And.intro (by omega) ?_ | (refine And.intro ?_ ?_; focus (simp only [IntKind.wrap_i64, IntKind.wrap_u64, IntKind.wrap_u32]; omega)) | (refine And.intro ?_ ?_; focus (simp only [zl1, zl2, zl3, zl4, zl5, zl6, zl7, zl8] <;> omega))))
    conv => whnf
    refine ⟨addr, size, rfl, h3, ?_⟩
    repeat ((conv => whnf); (first | refine Cnd.yes ?_ | refine Cnd.no ?_ | refine And.intro rfl ?_ | refine And.intro (by omega) ?_ | (refine And.intro ?_ ?_; focus (simp only [IntKind.wrap_i64, IntKind.wrap_u64, IntKind.wrap_u32]; omega)) | (refine And.intro ?_ ?_; focus (simp only [zl1, zl2, zl3, zl4, zl5, zl6, zl7, zl8] <;> omega))))
    conv => whnf
    refine Cnd.mk (fun h => ?_) fun h => ?_
    · have hs := fairB_size h
      repeat ((conv => whnf); (first | refine Cnd.yes ?_ | refine Cnd.no ?_ | refine And.intro rfl ?_ | refine And.intro (by omega) ?_ | (refine And.intro ?_ ?_; focus (simp only [IntKind.wrap_i64, IntKind.wrap_u64, IntKind.wrap_u32]; omega)) | (refine And.intro ?_ ?_; focus (simp only [zl1, zl2, zl3, zl4, zl5, zl6, zl7, zl8] <;> omega))))
      conv => whnf
      have e1 : IntKind.i64.wrap ((addr : Nat) : Int) = addr := by rw [IntKind.wrap_i64]; omega
      have e2 : IntKind.i64.wrap ((n : Int) - size) = n - size := by rw [IntKind.wrap_i64]; omega
      rw [e1, e2]
      have e3 : hasB n addr size = decide ((addr : Int) ≤ n - size) := by
        unfold hasB
        rw [h, Bool.true_and, decide_eq_decide]
        clear e1 e2
        omega
      rw [e3] at hK
      exact hK
    · repeat ((conv => whnf); (first | refine Cnd.yes ?_ | refine Cnd.no ?_ | refine And.intro rfl ?_ | refine And.intro (by omega) ?_ | (refine And.intro ?_ ?_; focus (simp only [IntKind.wrap_i64, IntKind.wrap_u64, IntKind.wrap_u32]; omega)) | (refine And.intro ?_ ?_; focus (simp only [zl1, zl2, zl3, zl4, zl5, zl6, zl7, zl8] <;> omega))))
      conv => whnf
      unfold hasB at hK
      rw [h, Bool.false_and] at hK
      exact hK
def hasS : Vc.Spec := fun args hp _ K => ∃ (o : Bool) (n addr : Nat) (c : Nat → Nat) (size : Int), args = [.ptr 0 0 0 0, .v (.int .u32 addr), .v (.int .i64 size)] ∧ hp = memHp o n c ∧ addr < 4294967296 ∧ n ≤ 65536 ∧ K (.v (.bool (hasB n addr size))) (memHp o n c)
theorem has_ok : SOK Tryd.prog 12 hasS := by
  refine TOK.weaken (runF_eq G1_ok mixed at12.1 at12.2 pf12_eq) fun args hp M K h => ?_
  obtain ⟨o, n, addr, c, size, rfl, rfl, h1, h2, h3⟩ := h
  exact has_run o M K n addr c size h1 h2 h3
noncomputable def specs2 : Nat → Option Vc.Trans := tget [(31, frameT putS'), (34, frameT fairS), (36, frameT getS), (12, frameT hasS)]
noncomputable def G2 : Nat → Option Vc.Trans := tabG specs2 (tget tab) 5
theorem G2_ok : GOK Tryd.prog G2 := tabG_ok (GOK.cons (frame_ok put_ok) (GOK.cons (frame_ok fair_ok) (GOK.cons (frame_ok get_ok) (GOK.cons (frame_ok has_ok) .nil)))) tab_ok 5
theorem load_run (o : Bool) (M : HL) (K : SV → List Ent → HL → Prop) (n addr : Nat) (c : Nat → Nat) (size : Int) (h3 : addr < 4294967296) (hn : n ≤ 65536) (hc : ∀ j, c j < 256)
    (hK : K (.tup [.v (.int .u32 (if hasB n addr size then getN c addr size.toNat else 0 : Nat)), .v (.bool (hasB n addr size))]) (memHp o n c) M) : runF G2 pf15 [.ptr 0 0 0 0, .v (.int .u32 addr), .v (.int .i64 size)] (memHp o n c) M K := by
  cases o
  all_goals
    repeat ((conv => whnf); (first | refine Cnd.yes ?_ | refine Cnd.no ?_ | refine And.intro rfl ?_ | refine And.intro (by omega) ?_ | (refine And.intro ?_ ?_; focus (simp only [IntKind.wrap_i64, IntKind.wrap_u64, IntKind.wrap_u32]; omega)) | (refine And.intro ?_ ?_; focus (simp only [zl1, zl2, zl3, zl4, zl5, zl6, zl7, zl8] <;> omega))))
    conv => whnf
    first
      | refine ⟨false, n, addr, c, size, rfl, rfl, h3, hn, ?_⟩
      | refine ⟨true, n, addr, c, size, rfl, rfl, h3, hn, ?_⟩
    repeat ((conv => whnf); (first | refine Cnd.yes ?_ | refine Cnd.no ?_ | refine And.intro rfl ?_ | refine And.intro (by omega) ?_ | (refine And.intro ?_ ?_; focus (simp only [IntKind.wrap_i64, IntKind.wrap_u64, IntKind.wrap_u32]; omega)) | (refine And.intro ?_ ?_; focus (simp only [zl1, zl2, zl3, zl4, zl5, zl6, zl7, zl8] <;> omega))))
    conv => whnf
    refine Cnd.mk (fun h => ?_) fun h => ?_
    · have h : hasB n addr size = false := by simpa using h
      repeat ((conv => whnf); (first | refine Cnd.yes ?_ | refine Cnd.no ?_ | refine And.intro rfl ?_ | refine And.intro (by omega) ?_ | (refine And.intro ?_ ?_; focus (simp only [IntKind.wrap_i64, IntKind.wrap_u64, IntKind.wrap_u32]; omega)) | (refine And.intro ?_ ?_; focus (simp only [zl1, zl2, zl3, zl4, zl5, zl6, zl7, zl8] <;> omega))))
      conv => whnf
      rw [h] at hK
      exact hK
    · have h : hasB n addr size = true := by simpa using h
      have hs := fairB_size (Bool.and_eq_true _ _ ▸ h).1
      have hl := of_decide_eq_true (Bool.and_eq_true _ _ ▸ h).2
      obtain ⟨sz, rfl⟩ : ∃ sz : Nat, size = sz := ⟨size.toNat, by omega⟩
      repeat ((conv => whnf); (first | refine Cnd.yes ?_ | refine Cnd.no ?_ | refine And.intro rfl ?_ | refine And.intro (by omega) ?_ | (refine And.intro ?_ ?_; focus (simp only [IntKind.wrap_i64, IntKind.wrap_u64, IntKind.wrap_u32]; omega)) | (refine And.intro ?_ ?_; focus (simp only [zl1, zl2, zl3, zl4, zl5, zl6, zl7, zl8] <;> omega))))
      conv => whnf
      rw [Nat.zero_add, Int.toNat_natCast, Int.toNat_natCast]
      first
        | refine ⟨false, n, addr, n - addr, sz, c, rfl, rfl, by omega, by omega, by omega, hc, hn, ?_⟩
        | refine ⟨true, n, addr, n - addr, sz, c, rfl, rfl, by omega, by omega, by omega, hc, hn, ?_⟩
      repeat ((conv => whnf); (first | refine Cnd.yes ?_ | refine Cnd.no ?_ | refine And.intro rfl ?_ | refine And.intro (by omega) ?_ | (refine And.intro ?_ ?_; focus (simp only [IntKind.wrap_i64, IntKind.wrap_u64, IntKind.wrap_u32]; omega)) | (refine And.intro ?_ ?_; focus (simp only [zl1, zl2, zl3, zl4, zl5, zl6, zl7, zl8] <;> omega))))
      conv => whnf
      rw [h] at hK
      exact hK
def loadS : Vc.Spec := fun args hp _ K => ∃ (o : Bool) (n addr : Nat) (c : Nat → Nat) (size : Int), args = [.ptr 0 0 0 0, .v (.int .u32 addr), .v (.int .i64 size)] ∧ hp = memHp o n c ∧ addr < 4294967296 ∧ n ≤ 65536 ∧ (∀ j, c j < 256) ∧
  K (.tup [.v (.int .u32 (if hasB n addr size then getN c addr size.toNat else 0 : Nat)), .v (.bool (hasB n addr size))]) (memHp o n c)
theorem load_ok : SOK Tryd.prog 15 loadS := by
  refine TOK.weaken (runF_eq G2_ok mixed at15.1 at15.2 pf15_eq) fun args hp M K h => ?_
  obtain ⟨o, n, addr, c, size, rfl, rfl, h1, h2, h3, h4⟩ := h
  exact load_run o M K n addr c size h1 h2 h3 h4
def storeC (n addr : Nat) (size : Int) (v : Nat) (c : Nat → Nat) : Nat → Nat := if hasB n addr size then putC c addr size.toNat v else c
theorem store_run (M : HL) (K : SV → List Ent → HL → Prop) (n addr v : Nat) (c : Nat → Nat) (size : Int) (h3 : addr < 4294967296) (hn : n ≤ 65536) (hv : v < 4294967296)
    (hK : K (.v (.bool (hasB n addr size))) (memHp true n (storeC n addr size v c)) M) : runF G2 pf14 [.ptr 0 0 0 0, .v (.int .u32 addr), .v (.int .i64 size), .v (.int .u32 v)] (memHp true n c) M K := by
  repeat ((conv => whnf); (first | refine Cnd.yes ?_ | refine Cnd.no ?_ | refine And.intro rfl ?_ | refine And.intro (by omega) ?_ | (refine And.intro ?_ ?_; focus (simp only [IntKind.wrap_i64, IntKind.wrap_u64, IntKind.wrap_u32]; omega)) | (refine And.intro ?_ ?_; focus (simp only [zl1, zl2, zl3, zl4, zl5, zl6, zl7, zl8] <;> omega))))
  conv => whnf
  refine ⟨true, n, addr, c, size, rfl, rfl, h3, hn, ?_⟩
  repeat ((conv => whnf); (first | refine Cnd.yes ?_ | refine Cnd.no ?_ | refine And.intro rfl ?_ | refine And.intro (by omega) ?_ | (refine And.intro ?_ ?_; focus (simp only [IntKind.wrap_i64, IntKind.wrap_u64, IntKind.wrap_u32]; omega)) | (refine And.intro ?_ ?_; focus (simp only [zl1, zl2, zl3, zl4, zl5, zl6, zl7, zl8] <;> omega))))
  conv => whnf
  refine Cnd.mk (fun h => ?_) fun h => ?_
  · have h : hasB n addr size = false := by simpa using h
    repeat ((conv => whnf); (first | refine Cnd.yes ?_ | refine Cnd.no ?_ | refine And.intro rfl ?_ | refine And.intro (by omega) ?_ | (refine And.intro ?_ ?_; focus (simp only [IntKind.wrap_i64, IntKind.wrap_u64, IntKind.wrap_u32]; omega)) | (refine And.intro ?_ ?_; focus (simp only [zl1, zl2, zl3, zl4, zl5, zl6, zl7, zl8] <;> omega))))
    conv => whnf
    rw [storeC, h] at hK
    exact hK
  · have h : hasB n addr size = true := by simpa using h
    have hs := fairB_size (Bool.and_eq_true _ _ ▸ h).1
    have hl := of_decide_eq_true (Bool.and_eq_true _ _ ▸ h).2
    obtain ⟨sz, rfl⟩ : ∃ sz : Nat, size = sz := ⟨size.toNat, by omega⟩
    repeat ((conv => whnf); (first | refine Cnd.yes ?_ | refine Cnd.no ?_ | refine And.intro rfl ?_ | refine And.intro (by omega) ?_ | (refine And.intro ?_ ?_; focus (simp only [IntKind.wrap_i64, IntKind.wrap_u64, IntKind.wrap_u32]; omega)) | (refine And.intro ?_ ?_; focus (simp only [zl1, zl2, zl3, zl4, zl5, zl6, zl7, zl8] <;> omega))))
    conv => whnf
    rw [Nat.zero_add, Int.toNat_natCast, Int.toNat_natCast]
    refine ⟨n, addr, n - addr, sz, v, c, rfl, rfl, by omega, by omega, by omega, hv, hn, ?_⟩
    repeat ((conv => whnf); (first | refine Cnd.yes ?_ | refine Cnd.no ?_ | refine And.intro rfl ?_ | refine And.intro (by omega) ?_ | (refine And.intro ?_ ?_; focus (simp only [IntKind.wrap_i64, IntKind.wrap_u64, IntKind.wrap_u32]; omega)) | (refine And.intro ?_ ?_; focus (simp only [zl1, zl2, zl3, zl4, zl5, zl6, zl7, zl8] <;> omega))))
    conv => whnf
    rw [storeC, h] at hK
    exact hK
def storeS : Vc.Spec := fun args hp _ K => ∃ (n addr v : Nat) (c : Nat → Nat) (size : Int), args = [.ptr 0 0 0 0, .v (.int .u32 addr), .v (.int .i64 size), .v (.int .u32 v)] ∧ hp = memHp true n c ∧ addr < 4294967296 ∧ n ≤ 65536 ∧ v < 4294967296 ∧
  K (.v (.bool (hasB n addr size))) (memHp true n (storeC n addr size v c))
theorem store_ok : SOK Tryd.prog 14 storeS := by
  refine TOK.weaken (runF_eq G2_ok mixed at14.1 at14.2 pf14_eq) fun args hp M K h => ?_
  obtain ⟨n, addr, v, c, size, rfl, rfl, h1, h2, h3, h4⟩ := h
  exact store_run M K n addr v c size h1 h2 h3 h4
theorem putC_lt {c : Nat → Nat} (hc : ∀ j, c j < 256) (off size v j : Nat) : putC c off size v j < 256 := by
  unfold putC
  split
  · exact Nat.mod_lt _ (by omega)
  · exact hc j
theorem storeC_lt {c : Nat → Nat} (hc : ∀ j, c j < 256) (n addr : Nat) (size : Int) (v j : Nat) : storeC n addr size v c j < 256 := by
  unfold storeC
  split
  · exact putC_lt hc ..
  · exact hc j
/-- What so many words are, byte by byte. -/
def iniC (ws : List Nat) : Nat → Nat → Nat | 0 => fun _ => 0 | i + 1 => putC (iniC ws i) (4 * i) 4 (ws.getD i 0)
theorem iniC_lt (ws : List Nat) : ∀ i j, iniC ws i j < 256
  | 0, _ => by simp [iniC]
  | i + 1, j => putC_lt (iniC_lt ws i) ..
def okN (b : Int) : Prop := 16 ≤ b ∧ b ≤ 65536 ∧ b % 16 = 0
def newT (k n : Nat) (c : Nat → Nat) : List Ent := [.row true 5 [.int .u8] (bT c n), .cells 64 [.slc k 1 0 n]]
theorem bT_zero (n : Nat) : List.replicate n [Value.int .u8 0] = bT (fun _ => 0) n := by
  have h : bT (fun _ => 0) n = (List.range n).map fun _ => [Value.int .u8 0] := rfl
  rw [h, List.map_const', List.length_range]
theorem bad_run (M : HL) (K : SV → List Ent → HL → Prop) (hp : List Ent) (b : Int) (w : SV) (hb : ¬ okN b) (hK : ∃ y, mcell M ⟨0, 0, none⟩ = some y ∧ K (.tup [.v (.pointer none), .v y]) hp M) :
    runF G2 pf9 [.v (.int .i64 b), w] hp M K := by
  obtain ⟨y, hy, hK⟩ := hK
  repeat ((conv => whnf); (first | refine Cnd.yes ?_ | refine Cnd.no ?_ | refine And.intro rfl ?_ | refine And.intro (by omega) ?_ | (refine And.intro ?_ ?_; focus (simp only [IntKind.wrap_i64, IntKind.wrap_u64, IntKind.wrap_u32]; omega)) | (refine And.intro ?_ ?_; focus (simp only [zl1, zl2, zl3, zl4, zl5, zl6, zl7, zl8] <;> omega))))
  conv => whnf
  by_cases h1 : b < 16
  · refine Cnd.tt (decide_eq_true h1) ?_
    repeat ((conv => whnf); (first | refine Cnd.yes ?_ | refine Cnd.no ?_ | refine And.intro rfl ?_ | refine And.intro (by omega) ?_ | (refine And.intro ?_ ?_; focus (simp only [IntKind.wrap_i64, IntKind.wrap_u64, IntKind.wrap_u32]; omega)) | (refine And.intro ?_ ?_; focus (simp only [zl1, zl2, zl3, zl4, zl5, zl6, zl7, zl8] <;> omega))))
    conv => whnf
    refine ⟨y, hy, ?_⟩
    repeat ((conv => whnf); (first | refine Cnd.yes ?_ | refine Cnd.no ?_ | refine And.intro rfl ?_ | refine And.intro (by omega) ?_ | (refine And.intro ?_ ?_; focus (simp only [IntKind.wrap_i64, IntKind.wrap_u64, IntKind.wrap_u32]; omega)) | (refine And.intro ?_ ?_; focus (simp only [zl1, zl2, zl3, zl4, zl5, zl6, zl7, zl8] <;> omega))))
    conv => whnf
    exact hK
  · refine Cnd.ff (decide_eq_false h1) ?_
    repeat ((conv => whnf); (first | refine Cnd.yes ?_ | refine Cnd.no ?_ | refine And.intro rfl ?_ | refine And.intro (by omega) ?_ | (refine And.intro ?_ ?_; focus (simp only [IntKind.wrap_i64, IntKind.wrap_u64, IntKind.wrap_u32]; omega)) | (refine And.intro ?_ ?_; focus (simp only [zl1, zl2, zl3, zl4, zl5, zl6, zl7, zl8] <;> omega))))
    conv => whnf
    by_cases h2 : b > 65536
    · refine Cnd.tt (decide_eq_true h2) ?_
      repeat ((conv => whnf); (first | refine Cnd.yes ?_ | refine Cnd.no ?_ | refine And.intro rfl ?_ | refine And.intro (by omega) ?_ | (refine And.intro ?_ ?_; focus (simp only [IntKind.wrap_i64, IntKind.wrap_u64, IntKind.wrap_u32]; omega)) | (refine And.intro ?_ ?_; focus (simp only [zl1, zl2, zl3, zl4, zl5, zl6, zl7, zl8] <;> omega))))
      conv => whnf
      refine ⟨y, hy, ?_⟩
      repeat ((conv => whnf); (first | refine Cnd.yes ?_ | refine Cnd.no ?_ | refine And.intro rfl ?_ | refine And.intro (by omega) ?_ | (refine And.intro ?_ ?_; focus (simp only [IntKind.wrap_i64, IntKind.wrap_u64, IntKind.wrap_u32]; omega)) | (refine And.intro ?_ ?_; focus (simp only [zl1, zl2, zl3, zl4, zl5, zl6, zl7, zl8] <;> omega))))
      conv => whnf
      exact hK
    · refine Cnd.ff (decide_eq_false h2) ?_
      repeat ((conv => whnf); (first | refine Cnd.yes ?_ | refine Cnd.no ?_ | refine And.intro rfl ?_ | refine And.intro (by omega) ?_ | (refine And.intro ?_ ?_; focus (simp only [IntKind.wrap_i64, IntKind.wrap_u64, IntKind.wrap_u32]; omega)) | (refine And.intro ?_ ?_; focus (simp only [zl1, zl2, zl3, zl4, zl5, zl6, zl7, zl8] <;> omega))))
      conv => whnf
      refine Cnd.tt (by
        rw [Int.tmod_eq_emod_of_nonneg (by omega)]
        unfold okN at hb
        simp only [bne_iff_ne]
        omega) ?_
      repeat ((conv => whnf); (first | refine Cnd.yes ?_ | refine Cnd.no ?_ | refine And.intro rfl ?_ | refine And.intro (by omega) ?_ | (refine And.intro ?_ ?_; focus (simp only [IntKind.wrap_i64, IntKind.wrap_u64, IntKind.wrap_u32]; omega)) | (refine And.intro ?_ ?_; focus (simp only [zl1, zl2, zl3, zl4, zl5, zl6, zl7, zl8] <;> omega))))
      conv => whnf
      refine ⟨y, hy, ?_⟩
      repeat ((conv => whnf); (first | refine Cnd.yes ?_ | refine Cnd.no ?_ | refine And.intro rfl ?_ | refine And.intro (by omega) ?_ | (refine And.intro ?_ ?_; focus (simp only [IntKind.wrap_i64, IntKind.wrap_u64, IntKind.wrap_u32]; omega)) | (refine And.intro ?_ ?_; focus (simp only [zl1, zl2, zl3, zl4, zl5, zl6, zl7, zl8] <;> omega))))
      conv => whnf
      exact hK
theorem new0_run (M : HL) (K : SV → List Ent → HL → Prop) (n : Nat) (hb : okN n) (hK : K (.tup [.ptr 1 0 0 0, .v .nilIface]) (newT 0 n (iniC [] 0)) M) :
    runF G2 pf9 [.v (.int .i64 n), .v (.slice none 0 0)] [] M K := by
  unfold okN at hb
  repeat ((conv => whnf); (first | refine Cnd.yes ?_ | refine Cnd.no ?_ | refine And.intro rfl ?_ | refine And.intro (by omega) ?_ | (refine And.intro ?_ ?_; focus (simp only [IntKind.wrap_i64, IntKind.wrap_u64, IntKind.wrap_u32]; omega)) | (refine And.intro ?_ ?_; focus (simp only [zl1, zl2, zl3, zl4, zl5, zl6, zl7, zl8] <;> omega))))
  conv => whnf
  refine Cnd.ff (decide_eq_false (by omega)) ?_
  repeat ((conv => whnf); (first | refine Cnd.yes ?_ | refine Cnd.no ?_ | refine And.intro rfl ?_ | refine And.intro (by omega) ?_ | (refine And.intro ?_ ?_; focus (simp only [IntKind.wrap_i64, IntKind.wrap_u64, IntKind.wrap_u32]; omega)) | (refine And.intro ?_ ?_; focus (simp only [zl1, zl2, zl3, zl4, zl5, zl6, zl7, zl8] <;> omega))))
  conv => whnf
  refine Cnd.ff (decide_eq_false (by omega)) ?_
  repeat ((conv => whnf); (first | refine Cnd.yes ?_ | refine Cnd.no ?_ | refine And.intro rfl ?_ | refine And.intro (by omega) ?_ | (refine And.intro ?_ ?_; focus (simp only [IntKind.wrap_i64, IntKind.wrap_u64, IntKind.wrap_u32]; omega)) | (refine And.intro ?_ ?_; focus (simp only [zl1, zl2, zl3, zl4, zl5, zl6, zl7, zl8] <;> omega))))
  conv => whnf
  refine Cnd.ff (by rw [Int.tmod_eq_emod_of_nonneg (by omega)]; simp only [bne_eq_false_iff_eq]; omega) ?_
  repeat ((conv => whnf); (first | refine Cnd.yes ?_ | refine Cnd.no ?_ | refine And.intro rfl ?_ | refine And.intro (by omega) ?_ | (refine And.intro ?_ ?_; focus (simp only [IntKind.wrap_i64, IntKind.wrap_u64, IntKind.wrap_u32]; omega)) | (refine And.intro ?_ ?_; focus (simp only [zl1, zl2, zl3, zl4, zl5, zl6, zl7, zl8] <;> omega))))
  conv => whnf
  refine Cnd.ff (decide_eq_false (by rw [Int.tdiv_eq_ediv_of_nonneg (by omega), IntKind.wrap_i64]; omega)) ?_
  repeat ((conv => whnf); (first | refine Cnd.yes ?_ | refine Cnd.no ?_ | refine And.intro rfl ?_ | refine And.intro (by omega) ?_ | (refine And.intro ?_ ?_; focus (simp only [IntKind.wrap_i64, IntKind.wrap_u64, IntKind.wrap_u32]; omega)) | (refine And.intro ?_ ?_; focus (simp only [zl1, zl2, zl3, zl4, zl5, zl6, zl7, zl8] <;> omega))))
  conv => whnf
  rw [Int.toNat_natCast, bT_zero]
  refine ⟨fun cnt tm hp M' => cnt = 0 ∧ M' = M ∧ tmkK 49 0 [(5, .v .nilIface), (6, .ptr 1 0 0 0), (32, .v (.int .i64 0)), (33, .v (.int .i64 0))] (fun l => tm = l) ∧ hp = newT 0 n (iniC [] 0),
    ⟨0, [0, 1], tmk 49 0 [(5, .v .nilIface), (6, .ptr 1 0 0 0), (32, .v (.int .i64 0)), (33, .v (.int .i64 0))], newT 0 n (iniC [] 0), ?_⟩, ?_⟩
  · repeat ((conv => whnf); (first | refine Cnd.yes ?_ | refine Cnd.no ?_ | refine And.intro rfl ?_ | refine And.intro (by omega) ?_ | (refine And.intro ?_ ?_; focus (simp only [IntKind.wrap_i64, IntKind.wrap_u64, IntKind.wrap_u32]; omega)) | (refine And.intro ?_ ?_; focus (simp only [zl1, zl2, zl3, zl4, zl5, zl6, zl7, zl8] <;> omega))))
    conv => whnf
  · rintro cnt tm hp M' ⟨rfl, rfl, htm, rfl⟩
    conv at htm => whnf
    subst htm
    repeat ((conv => whnf); (first | refine Cnd.yes ?_ | refine Cnd.no ?_ | refine And.intro rfl ?_ | refine And.intro (by omega) ?_ | (refine And.intro ?_ ?_; focus (simp only [IntKind.wrap_i64, IntKind.wrap_u64, IntKind.wrap_u32]; omega)) | (refine And.intro ?_ ?_; focus (simp only [zl1, zl2, zl3, zl4, zl5, zl6, zl7, zl8] <;> omega))))
    conv => whnf
    exact hK
theorem many_run (M : HL) (K : SV → List Ent → HL → Prop) (n : Nat) (o : Bool) (e : TypeId) (ws : List Nat) (hb : okN n) (hw : n / 4 < ws.length) (hwl : ws.length < 1000000) (hK : ∃ y, mcell M ⟨1, 0, none⟩ = some y ∧ K (.tup [.v (.pointer none), .v y]) [.row o e [.int .u32] (ws.map wrow)] M) :
    runF G2 pf9 [.v (.int .i64 n), .slc 0 1 0 ws.length] [.row o e [.int .u32] (ws.map wrow)] M K := by
  unfold okN at hb
  obtain ⟨y, hy, hK⟩ := hK
  repeat ((conv => whnf); (first | refine Cnd.yes ?_ | refine Cnd.no ?_ | refine And.intro rfl ?_ | refine And.intro (by omega) ?_ | (refine And.intro ?_ ?_; focus (simp only [IntKind.wrap_i64, IntKind.wrap_u64, IntKind.wrap_u32]; omega)) | (refine And.intro ?_ ?_; focus (simp only [zl1, zl2, zl3, zl4, zl5, zl6, zl7, zl8] <;> omega))))
  conv => whnf
  refine Cnd.ff (decide_eq_false (by omega)) ?_
  repeat ((conv => whnf); (first | refine Cnd.yes ?_ | refine Cnd.no ?_ | refine And.intro rfl ?_ | refine And.intro (by omega) ?_ | (refine And.intro ?_ ?_; focus (simp only [IntKind.wrap_i64, IntKind.wrap_u64, IntKind.wrap_u32]; omega)) | (refine And.intro ?_ ?_; focus (simp only [zl1, zl2, zl3, zl4, zl5, zl6, zl7, zl8] <;> omega))))
  conv => whnf
  refine Cnd.ff (decide_eq_false (by omega)) ?_
  repeat ((conv => whnf); (first | refine Cnd.yes ?_ | refine Cnd.no ?_ | refine And.intro rfl ?_ | refine And.intro (by omega) ?_ | (refine And.intro ?_ ?_; focus (simp only [IntKind.wrap_i64, IntKind.wrap_u64, IntKind.wrap_u32]; omega)) | (refine And.intro ?_ ?_; focus (simp only [zl1, zl2, zl3, zl4, zl5, zl6, zl7, zl8] <;> omega))))
  conv => whnf
  refine Cnd.ff (by rw [Int.tmod_eq_emod_of_nonneg (by omega)]; simp only [bne_eq_false_iff_eq]; omega) ?_
  repeat ((conv => whnf); (first | refine Cnd.yes ?_ | refine Cnd.no ?_ | refine And.intro rfl ?_ | refine And.intro (by omega) ?_ | (refine And.intro ?_ ?_; focus (simp only [IntKind.wrap_i64, IntKind.wrap_u64, IntKind.wrap_u32]; omega)) | (refine And.intro ?_ ?_; focus (simp only [zl1, zl2, zl3, zl4, zl5, zl6, zl7, zl8] <;> omega))))
  conv => whnf
  refine Cnd.tt (decide_eq_true (by rw [Int.tdiv_eq_ediv_of_nonneg (by omega), IntKind.wrap_i64]; omega)) ?_
  repeat ((conv => whnf); (first | refine Cnd.yes ?_ | refine Cnd.no ?_ | refine And.intro rfl ?_ | refine And.intro (by omega) ?_ | (refine And.intro ?_ ?_; focus (simp only [IntKind.wrap_i64, IntKind.wrap_u64, IntKind.wrap_u32]; omega)) | (refine And.intro ?_ ?_; focus (simp only [zl1, zl2, zl3, zl4, zl5, zl6, zl7, zl8] <;> omega))))
  conv => whnf
  refine ⟨y, hy, ?_⟩
  repeat ((conv => whnf); (first | refine Cnd.yes ?_ | refine Cnd.no ?_ | refine And.intro rfl ?_ | refine And.intro (by omega) ?_ | (refine And.intro ?_ ?_; focus (simp only [IntKind.wrap_i64, IntKind.wrap_u64, IntKind.wrap_u32]; omega)) | (refine And.intro ?_ ?_; focus (simp only [zl1, zl2, zl3, zl4, zl5, zl6, zl7, zl8] <;> omega))))
  conv => whnf
  exact hK
theorem new1_run (M : HL) (K : SV → List Ent → HL → Prop) (n : Nat) (o : Bool) (e : TypeId) (ws : List Nat) (hb : okN n) (hw : ws.length ≤ n / 4) (hwl : ∀ i, ws.getD i 0 < 4294967296)
    (hK : K (.tup [.ptr 2 0 0 0, .v .nilIface]) (.row o e [.int .u32] (ws.map wrow) :: newT 1 n (iniC ws ws.length)) M) :
    runF G2 pf9 [.v (.int .i64 n), .slc 0 1 0 ws.length] [.row o e [.int .u32] (ws.map wrow)] M K := by
  unfold okN at hb
  repeat ((conv => whnf); (first | refine Cnd.yes ?_ | refine Cnd.no ?_ | refine And.intro rfl ?_ | refine And.intro (by omega) ?_ | (refine And.intro ?_ ?_; focus (simp only [IntKind.wrap_i64, IntKind.wrap_u64, IntKind.wrap_u32]; omega)) | (refine And.intro ?_ ?_; focus (simp only [zl1, zl2, zl3, zl4, zl5, zl6, zl7, zl8] <;> omega))))
  conv => whnf
  refine Cnd.ff (decide_eq_false (by omega)) ?_
  repeat ((conv => whnf); (first | refine Cnd.yes ?_ | refine Cnd.no ?_ | refine And.intro rfl ?_ | refine And.intro (by omega) ?_ | (refine And.intro ?_ ?_; focus (simp only [IntKind.wrap_i64, IntKind.wrap_u64, IntKind.wrap_u32]; omega)) | (refine And.intro ?_ ?_; focus (simp only [zl1, zl2, zl3, zl4, zl5, zl6, zl7, zl8] <;> omega))))
  conv => whnf
  refine Cnd.ff (decide_eq_false (by omega)) ?_
  repeat ((conv => whnf); (first | refine Cnd.yes ?_ | refine Cnd.no ?_ | refine And.intro rfl ?_ | refine And.intro (by omega) ?_ | (refine And.intro ?_ ?_; focus (simp only [IntKind.wrap_i64, IntKind.wrap_u64, IntKind.wrap_u32]; omega)) | (refine And.intro ?_ ?_; focus (simp only [zl1, zl2, zl3, zl4, zl5, zl6, zl7, zl8] <;> omega))))
  conv => whnf
  refine Cnd.ff (by rw [Int.tmod_eq_emod_of_nonneg (by omega)]; simp only [bne_eq_false_iff_eq]; omega) ?_
  repeat ((conv => whnf); (first | refine Cnd.yes ?_ | refine Cnd.no ?_ | refine And.intro rfl ?_ | refine And.intro (by omega) ?_ | (refine And.intro ?_ ?_; focus (simp only [IntKind.wrap_i64, IntKind.wrap_u64, IntKind.wrap_u32]; omega)) | (refine And.intro ?_ ?_; focus (simp only [zl1, zl2, zl3, zl4, zl5, zl6, zl7, zl8] <;> omega))))
  conv => whnf
  refine Cnd.ff (decide_eq_false (by rw [Int.tdiv_eq_ediv_of_nonneg (by omega), IntKind.wrap_i64]; omega)) ?_
  repeat ((conv => whnf); (first | refine Cnd.yes ?_ | refine Cnd.no ?_ | refine And.intro rfl ?_ | refine And.intro (by omega) ?_ | (refine And.intro ?_ ?_; focus (simp only [IntKind.wrap_i64, IntKind.wrap_u64, IntKind.wrap_u32]; omega)) | (refine And.intro ?_ ?_; focus (simp only [zl1, zl2, zl3, zl4, zl5, zl6, zl7, zl8] <;> omega))))
  conv => whnf
  rw [Int.toNat_natCast, bT_zero]
  refine ⟨fun cnt tm hp M' => ∃ i, i ≤ ws.length ∧ cnt = ws.length - i ∧ M' = M ∧ tmkK 49 0 [(5, .v .nilIface), (6, .ptr 2 0 0 0), (31, .slc 0 1 0 ws.length), (32, .v (.int .i64 ws.length)), (33, .v (.int .i64 (i : Nat)))] (fun l => tm = l) ∧ hp = .row o e [.int .u32] (ws.map wrow) :: newT 1 n (iniC ws i),
    ⟨ws.length, [0, 1, 2], tmk 49 0 [(5, .v .nilIface), (6, .ptr 2 0 0 0), (31, .slc 0 1 0 ws.length), (32, .v (.int .i64 ws.length)), (33, .v (.int .i64 (0 : Nat)))], .row o e [.int .u32] (ws.map wrow) :: newT 1 n (iniC ws 0), ?_⟩, ?_⟩
  · repeat ((conv => whnf); (first | refine Cnd.yes ?_ | refine Cnd.no ?_ | refine And.intro rfl ?_ | refine And.intro (by omega) ?_ | (refine And.intro ?_ ?_; focus (simp only [IntKind.wrap_i64, IntKind.wrap_u64, IntKind.wrap_u32]; omega)) | (refine And.intro ?_ ?_; focus (simp only [zl1, zl2, zl3, zl4, zl5, zl6, zl7, zl8] <;> omega))))
    conv => whnf
    exact ⟨0, by omega, by omega, rfl, (tmkK_eq _ _ _ _).mpr rfl, rfl⟩
  · rintro cnt tm hp M' ⟨i, hi, rfl, rfl, htm, rfl⟩
    conv at htm => whnf
    subst htm
    repeat ((conv => whnf); (first | refine Cnd.yes ?_ | refine Cnd.no ?_ | refine And.intro rfl ?_ | refine And.intro (by omega) ?_ | (refine And.intro ?_ ?_; focus (simp only [IntKind.wrap_i64, IntKind.wrap_u64, IntKind.wrap_u32]; omega)) | (refine And.intro ?_ ?_; focus (simp only [zl1, zl2, zl3, zl4, zl5, zl6, zl7, zl8] <;> omega))))
    conv => whnf
    refine Cnd.mk (fun hlt => ?_) fun hge => ?_
    · have hin : i < ws.length := by have := of_decide_eq_true hlt; omega
      have e4 : IntKind.i64.wrap (4 * (i : Int)) = ((4 * i : Nat) : Int) := by rw [IntKind.wrap_i64]; omega
      repeat ((conv => whnf); (first | refine Cnd.yes ?_ | refine Cnd.no ?_ | refine And.intro rfl ?_ | refine And.intro (by omega) ?_ | (refine And.intro ?_ ?_; focus (simp only [IntKind.wrap_i64, IntKind.wrap_u64, IntKind.wrap_u32]; omega)) | (refine And.intro ?_ ?_; focus (simp only [zl1, zl2, zl3, zl4, zl5, zl6, zl7, zl8] <;> omega))))
      conv => whnf
      rw [e4, toI_w hin, Nat.zero_add, Int.toNat_natCast, Int.toNat_natCast]
      refine ⟨n, 4 * i, n - 4 * i, 4, ws.getD i 0, iniC ws i, rfl, rfl, by omega, by omega, by omega, hwl i, by omega, ?_⟩
      repeat ((conv => whnf); (first | refine Cnd.yes ?_ | refine Cnd.no ?_ | refine And.intro rfl ?_ | refine And.intro (by omega) ?_ | (refine And.intro ?_ ?_; focus (simp only [IntKind.wrap_i64, IntKind.wrap_u64, IntKind.wrap_u32]; omega)) | (refine And.intro ?_ ?_; focus (simp only [zl1, zl2, zl3, zl4, zl5, zl6, zl7, zl8] <;> omega))))
      conv => whnf
      refine ⟨ws.length - (i + 1), [0, 1, 2], tmk 49 0 [(5, .v .nilIface), (6, .ptr 2 0 0 0), (31, .slc 0 1 0 ws.length), (32, .v (.int .i64 ws.length)), (33, .v (.int .i64 (i + 1 : Nat)))], .row o e [.int .u32] (ws.map wrow) :: newT 1 n (iniC ws (i + 1)), by omega, ?_⟩
      repeat ((conv => whnf); (first | refine Cnd.yes ?_ | refine Cnd.no ?_ | refine And.intro rfl ?_ | refine And.intro (by omega) ?_ | (refine And.intro ?_ ?_; focus (simp only [IntKind.wrap_i64, IntKind.wrap_u64, IntKind.wrap_u32]; omega)) | (refine And.intro ?_ ?_; focus (simp only [zl1, zl2, zl3, zl4, zl5, zl6, zl7, zl8] <;> omega))))
      conv => whnf
      exact ⟨i + 1, by omega, rfl, rfl, (tmkK_eq _ _ _ _).mpr rfl, rfl⟩
    · have hin : i = ws.length := by have := of_decide_eq_false hge; omega
      subst hin
      repeat ((conv => whnf); (first | refine Cnd.yes ?_ | refine Cnd.no ?_ | refine And.intro rfl ?_ | refine And.intro (by omega) ?_ | (refine And.intro ?_ ?_; focus (simp only [IntKind.wrap_i64, IntKind.wrap_u64, IntKind.wrap_u32]; omega)) | (refine And.intro ?_ ?_; focus (simp only [zl1, zl2, zl3, zl4, zl5, zl6, zl7, zl8] <;> omega))))
      conv => whnf
      exact hK
def newS : Vc.Spec := fun args hp M K => (∃ (b : Int) (w : SV), args = [.v (.int .i64 b), w] ∧ ¬ okN b ∧ ∃ y, mcell M ⟨0, 0, none⟩ = some y ∧ K (.tup [.v (.pointer none), .v y]) hp) ∨
  (∃ n : Nat, args = [.v (.int .i64 n), .v (.slice none 0 0)] ∧ hp = [] ∧ okN n ∧ K (.tup [.ptr 1 0 0 0, .v .nilIface]) (newT 0 n (iniC [] 0))) ∨
  (∃ (n : Nat) (o : Bool) (e : TypeId) (ws : List Nat), args = [.v (.int .i64 n), .slc 0 1 0 ws.length] ∧ hp = [.row o e [.int .u32] (ws.map wrow)] ∧ okN n ∧ n / 4 < ws.length ∧ ws.length < 1000000 ∧ ∃ y, mcell M ⟨1, 0, none⟩ = some y ∧ K (.tup [.v (.pointer none), .v y]) hp) ∨
  (∃ (n : Nat) (o : Bool) (e : TypeId) (ws : List Nat), args = [.v (.int .i64 n), .slc 0 1 0 ws.length] ∧ hp = [.row o e [.int .u32] (ws.map wrow)] ∧ okN n ∧ ws.length ≤ n / 4 ∧ (∀ i, ws.getD i 0 < 4294967296) ∧
    K (.tup [.ptr 2 0 0 0, .v .nilIface]) (.row o e [.int .u32] (ws.map wrow) :: newT 1 n (iniC ws ws.length)))
theorem new_ok : SOK Tryd.prog 9 newS := by
  refine TOK.weaken (runF_eq G2_ok mixed at9.1 at9.2 pf9_eq) fun args hp M K h => ?_
  rcases h with ⟨b, w, rfl, h1, h2⟩ | ⟨n, rfl, rfl, h1, h2⟩ | ⟨n, o, e, ws, rfl, rfl, h1, h2, h3, h4⟩ | ⟨n, o, e, ws, rfl, rfl, h1, h2, h3, h4⟩
  · exact bad_run M K hp b w h1 h2
  · exact new0_run M K n h1 h2
  · exact many_run M K n o e ws h1 h2 h3 h4
  · exact new1_run M K n o e ws h1 h2 h3 h4
noncomputable def specs3 : Nat → Option Vc.Trans := tget [(31, frameT putS'), (34, frameT fairS), (36, frameT getS), (12, frameT hasS), (15, frameT loadS), (14, frameT storeS), (9, frameT newS)]
noncomputable def G3 : Nat → Option Vc.Trans := tabG specs3 (tget tab) 5
theorem G3_ok : GOK Tryd.prog G3 := tabG_ok (GOK.cons (frame_ok put_ok) (GOK.cons (frame_ok fair_ok) (GOK.cons (frame_ok get_ok) (GOK.cons (frame_ok has_ok) (GOK.cons (frame_ok load_ok) (GOK.cons (frame_ok store_ok) (GOK.cons (frame_ok new_ok) .nil))))))) tab_ok 5
def firstHp : List Ent := [.row true 32 [.int .u32] [[.int .u32 67305985]], .row true 5 [.int .u8] (bT (iniC [67305985] 1) 16), .cells 64 [.slc 1 1 0 16]]
theorem first_run (M : HL) (K : SV → List Ent → HL → Prop) (hK : K (.v (.bool true)) firstHp M) : runF G3 pf8 [] [] M K := by
  repeat ((conv => whnf); (first | refine Cnd.yes ?_ | refine Cnd.no ?_ | refine And.intro rfl ?_ | refine And.intro (by omega) ?_ | (refine And.intro ?_ ?_; focus (simp only [IntKind.wrap_i64, IntKind.wrap_u64, IntKind.wrap_u32]; omega)) | (refine And.intro ?_ ?_; focus (simp only [zl1, zl2, zl3, zl4, zl5, zl6, zl7, zl8] <;> omega))))
  conv => whnf
  refine .inr (.inr (.inr ⟨16, true, 32, [67305985], rfl, rfl, by unfold okN; omega, by decide, fun i => by cases i <;> simp, ?_⟩))
  repeat ((conv => whnf); (first | refine Cnd.yes ?_ | refine Cnd.no ?_ | refine And.intro rfl ?_ | refine And.intro (by omega) ?_ | (refine And.intro ?_ ?_; focus (simp only [IntKind.wrap_i64, IntKind.wrap_u64, IntKind.wrap_u32]; omega)) | (refine And.intro ?_ ?_; focus (simp only [zl1, zl2, zl3, zl4, zl5, zl6, zl7, zl8] <;> omega))))
  conv => whnf
  have hc := iniC_lt [67305985] 1
  refine ⟨true, 16, 1, iniC [67305985] 1, 1, rfl, rfl, by omega, by omega, hc, ?_⟩
  repeat ((conv => whnf); (first | refine Cnd.yes ?_ | refine Cnd.no ?_ | refine And.intro rfl ?_ | refine And.intro (by omega) ?_ | (refine And.intro ?_ ?_; focus (simp only [IntKind.wrap_i64, IntKind.wrap_u64, IntKind.wrap_u32]; omega)) | (refine And.intro ?_ ?_; focus (simp only [zl1, zl2, zl3, zl4, zl5, zl6, zl7, zl8] <;> omega))))
  conv => whnf
  refine ⟨true, 16, 2, iniC [67305985] 1, 2, rfl, rfl, by omega, by omega, hc, ?_⟩
  repeat ((conv => whnf); (first | refine Cnd.yes ?_ | refine Cnd.no ?_ | refine And.intro rfl ?_ | refine And.intro (by omega) ?_ | (refine And.intro ?_ ?_; focus (simp only [IntKind.wrap_i64, IntKind.wrap_u64, IntKind.wrap_u32]; omega)) | (refine And.intro ?_ ?_; focus (simp only [zl1, zl2, zl3, zl4, zl5, zl6, zl7, zl8] <;> omega))))
  conv => whnf
  refine ⟨true, 16, 16, iniC [67305985] 1, 4, rfl, rfl, by omega, by omega, hc, ?_⟩
  repeat ((conv => whnf); (first | refine Cnd.yes ?_ | refine Cnd.no ?_ | refine And.intro rfl ?_ | refine And.intro (by omega) ?_ | (refine And.intro ?_ ?_; focus (simp only [IntKind.wrap_i64, IntKind.wrap_u64, IntKind.wrap_u32]; omega)) | (refine And.intro ?_ ?_; focus (simp only [zl1, zl2, zl3, zl4, zl5, zl6, zl7, zl8] <;> omega))))
  conv => whnf
  refine ⟨true, 16, 1, iniC [67305985] 1, 2, rfl, rfl, by omega, by omega, hc, ?_⟩
  repeat ((conv => whnf); (first | refine Cnd.yes ?_ | refine Cnd.no ?_ | refine And.intro rfl ?_ | refine And.intro (by omega) ?_ | (refine And.intro ?_ ?_; focus (simp only [IntKind.wrap_i64, IntKind.wrap_u64, IntKind.wrap_u32]; omega)) | (refine And.intro ?_ ?_; focus (simp only [zl1, zl2, zl3, zl4, zl5, zl6, zl7, zl8] <;> omega))))
  conv => whnf
  exact hK
def firstS : Vc.Spec := fun args hp _ K => args = [] ∧ hp = [] ∧ K (.v (.bool true)) firstHp
theorem first_ok : SOK Tryd.prog 8 firstS := by
  refine TOK.weaken (runF_eq G3_ok mixed at8.1 at8.2 pf8_eq) fun args hp M K h => ?_
  obtain ⟨rfl, rfl, h⟩ := h
  exact first_run M K h
def eqB (n m : Nat) (c d : Nat → Nat) : Bool := decide (n = m ∧ ∀ j, j < n → c j = d j)
theorem equal_run (o o2 : Bool) (M : HL) (K : SV → List Ent → HL → Prop) (c d : Nat → Nat) (n m : Nat) (hn : n ≤ 65536) (hm : m ≤ 65536)
    (hK : K (.v (.bool (eqB n m c d))) [.row o 5 [.int .u8] (bT c n), .row o2 5 [.int .u8] (bT d m)] M) : runF G0 pf37 [.slc 0 1 0 n, .slc 1 1 0 m] [.row o 5 [.int .u8] (bT c n), .row o2 5 [.int .u8] (bT d m)] M K := by
  repeat ((conv => whnf); (first | refine Cnd.yes ?_ | refine Cnd.no ?_ | refine And.intro rfl ?_ | refine And.intro (by omega) ?_ | (refine And.intro ?_ ?_; focus (simp only [IntKind.wrap_i64, IntKind.wrap_u64, IntKind.wrap_u32]; omega)) | (refine And.intro ?_ ?_; focus (simp only [zl1, zl2, zl3, zl4, zl5, zl6, zl7, zl8] <;> omega))))
  conv => whnf
  by_cases hnm : n = m
  · subst hnm
    refine Cnd.ff (by simp) ?_
    repeat ((conv => whnf); (first | refine Cnd.yes ?_ | refine Cnd.no ?_ | refine And.intro rfl ?_ | refine And.intro (by omega) ?_ | (refine And.intro ?_ ?_; focus (simp only [IntKind.wrap_i64, IntKind.wrap_u64, IntKind.wrap_u32]; omega)) | (refine And.intro ?_ ?_; focus (simp only [zl1, zl2, zl3, zl4, zl5, zl6, zl7, zl8] <;> omega))))
    conv => whnf
    refine ⟨fun cnt tm hp M' => ∃ i, i ≤ n ∧ (∀ j, j < i → c j = d j) ∧ cnt = n - i ∧ M' = M ∧ tmkK 26 0 [(0, .slc 0 1 0 n), (1, .slc 1 1 0 n), (12, .v (.int .i64 n)), (13, .v (.int .i64 (i : Nat)))] (fun l => tm = l) ∧ hp = [.row o 5 [.int .u8] (bT c n), .row o2 5 [.int .u8] (bT d n)],
      ⟨n, [0, 1], tmk 26 0 [(0, .slc 0 1 0 n), (1, .slc 1 1 0 n), (12, .v (.int .i64 n)), (13, .v (.int .i64 (0 : Nat)))], [.row o 5 [.int .u8] (bT c n), .row o2 5 [.int .u8] (bT d n)], ?_⟩, ?_⟩
    · repeat ((conv => whnf); (first | refine Cnd.yes ?_ | refine Cnd.no ?_ | refine And.intro rfl ?_ | refine And.intro (by omega) ?_ | (refine And.intro ?_ ?_; focus (simp only [IntKind.wrap_i64, IntKind.wrap_u64, IntKind.wrap_u32]; omega)) | (refine And.intro ?_ ?_; focus (simp only [zl1, zl2, zl3, zl4, zl5, zl6, zl7, zl8] <;> omega))))
      conv => whnf
      exact ⟨0, by omega, fun j hj => by omega, by omega, rfl, (tmkK_eq _ _ _ _).mpr rfl, rfl⟩
    · rintro cnt tm hp M' ⟨i, hi, hall, rfl, rfl, htm, rfl⟩
      conv at htm => whnf
      subst htm
      repeat ((conv => whnf); (first | refine Cnd.yes ?_ | refine Cnd.no ?_ | refine And.intro rfl ?_ | refine And.intro (by omega) ?_ | (refine And.intro ?_ ?_; focus (simp only [IntKind.wrap_i64, IntKind.wrap_u64, IntKind.wrap_u32]; omega)) | (refine And.intro ?_ ?_; focus (simp only [zl1, zl2, zl3, zl4, zl5, zl6, zl7, zl8] <;> omega))))
      conv => whnf
      refine Cnd.mk (fun hlt => ?_) fun hge => ?_
      · have hin : i < n := by have := of_decide_eq_true hlt; omega
        repeat ((conv => whnf); (first | refine Cnd.yes ?_ | refine Cnd.no ?_ | refine And.intro rfl ?_ | refine And.intro (by omega) ?_ | (refine And.intro ?_ ?_; focus (simp only [IntKind.wrap_i64, IntKind.wrap_u64, IntKind.wrap_u32]; omega)) | (refine And.intro ?_ ?_; focus (simp only [zl1, zl2, zl3, zl4, zl5, zl6, zl7, zl8] <;> omega))))
        conv => whnf
        rw [bT_len, Nat.zero_add, Int.toNat_natCast]
        repeat ((conv => whnf); (first | refine Cnd.yes ?_ | refine Cnd.no ?_ | refine And.intro rfl ?_ | refine And.intro (by omega) ?_ | (refine And.intro ?_ ?_; focus (simp only [IntKind.wrap_i64, IntKind.wrap_u64, IntKind.wrap_u32]; omega)) | (refine And.intro ?_ ?_; focus (simp only [zl1, zl2, zl3, zl4, zl5, zl6, zl7, zl8] <;> omega))))
        conv => whnf
        rw [toI_bT c hin, bT_len]
        repeat ((conv => whnf); (first | refine Cnd.yes ?_ | refine Cnd.no ?_ | refine And.intro rfl ?_ | refine And.intro (by omega) ?_ | (refine And.intro ?_ ?_; focus (simp only [IntKind.wrap_i64, IntKind.wrap_u64, IntKind.wrap_u32]; omega)) | (refine And.intro ?_ ?_; focus (simp only [zl1, zl2, zl3, zl4, zl5, zl6, zl7, zl8] <;> omega))))
        conv => whnf
        rw [Nat.zero_add, Int.toNat_natCast, toI_bT d hin]
        by_cases hcd : c i = d i
        · refine Cnd.ff (by rw [hcd]; simp) ?_
          repeat ((conv => whnf); (first | refine Cnd.yes ?_ | refine Cnd.no ?_ | refine And.intro rfl ?_ | refine And.intro (by omega) ?_ | (refine And.intro ?_ ?_; focus (simp only [IntKind.wrap_i64, IntKind.wrap_u64, IntKind.wrap_u32]; omega)) | (refine And.intro ?_ ?_; focus (simp only [zl1, zl2, zl3, zl4, zl5, zl6, zl7, zl8] <;> omega))))
          conv => whnf
          refine ⟨n - (i + 1), [0, 1], tmk 26 0 [(0, .slc 0 1 0 n), (1, .slc 1 1 0 n), (12, .v (.int .i64 n)), (13, .v (.int .i64 (i + 1 : Nat)))], [.row o 5 [.int .u8] (bT c n), .row o2 5 [.int .u8] (bT d n)], by omega, ?_⟩
          repeat ((conv => whnf); (first | refine Cnd.yes ?_ | refine Cnd.no ?_ | refine And.intro rfl ?_ | refine And.intro (by omega) ?_ | (refine And.intro ?_ ?_; focus (simp only [IntKind.wrap_i64, IntKind.wrap_u64, IntKind.wrap_u32]; omega)) | (refine And.intro ?_ ?_; focus (simp only [zl1, zl2, zl3, zl4, zl5, zl6, zl7, zl8] <;> omega))))
          conv => whnf
          exact ⟨i + 1, by omega, fun j hj => by
            by_cases h : j = i
            · rw [h]; exact hcd
            · exact hall j (by omega), rfl, rfl, (tmkK_eq _ _ _ _).mpr rfl, rfl⟩
        · refine Cnd.tt (by simp only [bne_iff_ne]; omega) ?_
          repeat ((conv => whnf); (first | refine Cnd.yes ?_ | refine Cnd.no ?_ | refine And.intro rfl ?_ | refine And.intro (by omega) ?_ | (refine And.intro ?_ ?_; focus (simp only [IntKind.wrap_i64, IntKind.wrap_u64, IntKind.wrap_u32]; omega)) | (refine And.intro ?_ ?_; focus (simp only [zl1, zl2, zl3, zl4, zl5, zl6, zl7, zl8] <;> omega))))
          conv => whnf
          rw [show eqB n n c d = false from decide_eq_false fun h => hcd (h.2 i hin)] at hK
          exact hK
      · have hin : i = n := by have := of_decide_eq_false hge; omega
        subst hin
        repeat ((conv => whnf); (first | refine Cnd.yes ?_ | refine Cnd.no ?_ | refine And.intro rfl ?_ | refine And.intro (by omega) ?_ | (refine And.intro ?_ ?_; focus (simp only [IntKind.wrap_i64, IntKind.wrap_u64, IntKind.wrap_u32]; omega)) | (refine And.intro ?_ ?_; focus (simp only [zl1, zl2, zl3, zl4, zl5, zl6, zl7, zl8] <;> omega))))
        conv => whnf
        rw [show eqB i i c d = true from decide_eq_true ⟨rfl, hall⟩] at hK
        exact hK
  · refine Cnd.tt (by simp only [bne_iff_ne]; omega) ?_
    repeat ((conv => whnf); (first | refine Cnd.yes ?_ | refine Cnd.no ?_ | refine And.intro rfl ?_ | refine And.intro (by omega) ?_ | (refine And.intro ?_ ?_; focus (simp only [IntKind.wrap_i64, IntKind.wrap_u64, IntKind.wrap_u32]; omega)) | (refine And.intro ?_ ?_; focus (simp only [zl1, zl2, zl3, zl4, zl5, zl6, zl7, zl8] <;> omega))))
    conv => whnf
    rw [show eqB n m c d = false from decide_eq_false fun h => hnm h.1] at hK
    exact hK
def equalS : Vc.Spec := fun args hp _ K => ∃ (o o2 : Bool) (n m : Nat) (c d : Nat → Nat), args = [.slc 0 1 0 n, .slc 1 1 0 m] ∧ hp = [.row o 5 [.int .u8] (bT c n), .row o2 5 [.int .u8] (bT d m)] ∧ n ≤ 65536 ∧ m ≤ 65536 ∧ K (.v (.bool (eqB n m c d))) hp
theorem equal_ok : SOK Tryd.prog 37 equalS := by
  refine TOK.weaken (runF_eq G0_ok mixed at37.1 at37.2 pf37_eq) fun args hp M K h => ?_
  obtain ⟨o, o2, n, m, c, d, rfl, rfl, h1, h2, h3⟩ := h
  exact equal_run o o2 M K c d n m h1 h2 h3
noncomputable def specs4 : Nat → Option Vc.Trans := tget [(31, frameT putS'), (34, frameT fairS), (36, frameT getS), (12, frameT hasS), (15, frameT loadS), (14, frameT storeS), (9, frameT newS), (8, frameT firstS), (37, frameT equalS)]
noncomputable def G4 : Nat → Option Vc.Trans := tabG specs4 (tget tab) 5
theorem G4_ok : GOK Tryd.prog G4 := tabG_ok (GOK.cons (frame_ok put_ok) (GOK.cons (frame_ok fair_ok) (GOK.cons (frame_ok get_ok) (GOK.cons (frame_ok has_ok) (GOK.cons (frame_ok load_ok) (GOK.cons (frame_ok store_ok) (GOK.cons (frame_ok new_ok) (GOK.cons (frame_ok first_ok) (GOK.cons (frame_ok equal_ok) .nil))))))))) tab_ok 5
end Go.Proofs.YtncninjgfllcdaaDoor
