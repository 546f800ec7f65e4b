/-
  Operations; writes, reads, span, marked, by, Contains, walked; their contracts.
-/
import Derived.Test.YtkfkoldaeplckaaDoorCa
import Derived.Test.YtkfkoldaeplckaaDoorVcu
set_option linter.unusedSimpArgs false
set_option linter.unusedVariables false

namespace Go.Proofs.YtkfkoldaeplckaaDoor
open Go Go.Vc
set_option maxRecDepth 100000
set_option linter.unusedSimpArgs false
set_option linter.unusedVariables false
set_option maxHeartbeats 4000000
/-- An operation. -/
structure Op where
  k : Int
  sz : Int
  ad : Int
  v : Int
  g : Int
  pr : Bool
  aq : Bool
  rl : Bool
  pd : Int
  sc : Int
  ya : Value
  yd : Value
  yc : Value
  da : List Int
  dd : List Int
  dc : List Int
def nilV : Value := .slice none 0 0
instance : Inhabited Op := ⟨⟨0, 0, 0, 0, 0, false, false, false, 0, 0, .slice none 0 0, .slice none 0 0, .slice none 0 0, [], [], []⟩⟩
def ock : List CK := [.int .i64, .int .i64, .int .u32, .int .u32, .int .u32, .bool, .bool, .bool, .int .i64, .int .i64, .sl, .sl, .sl]
def orow (x : Op) : List Value := [.int .i64 x.k, .int .i64 x.sz, .int .u32 x.ad, .int .u32 x.v, .int .u32 x.g, .bool x.pr, .bool x.aq, .bool x.rl, .int .i64 x.pd, .int .i64 x.sc, x.ya, x.yd, x.yc]
def osv (x : Op) : List SV := [.v (.int .i64 x.k), .v (.int .i64 x.sz), .v (.int .u32 x.ad), .v (.int .u32 x.v), .v (.int .u32 x.g), .v (.bool x.pr), .v (.bool x.aq), .v (.bool x.rl), .v (.int .i64 x.pd), .v (.int .i64 x.sc), .rsl x.ya, .rsl x.yd, .rsl x.yc]
def wr (x : Op) : Bool := x.k == 2 || x.k == 3
def rd (x : Op) : Bool := x.k == 1 || x.k == 3
def opLo (x : Op) : Int := if x.k = 4 then 0 else x.ad
def opHi (x : Op) : Int := if x.k = 4 then 0 else x.ad + x.sz
def mk (x : Op) : Bool := x.aq || x.rl
/-- Its address and size may be. -/
def Fit (x : Op) : Prop := 0 ≤ x.ad ∧ x.ad < 4294967296 ∧ (x.k ≠ 4 → 0 ≤ x.sz ∧ x.sz ≤ 4)
structure OIn (M : HL) (x : Op) : Prop where
  a : ∃ e, Vc.RowsIn M e [.int .i64] x.ya (x.da.map irow)
  d : ∃ e, Vc.RowsIn M e [.int .i64] x.yd (x.dd.map irow)
  c : ∃ e, Vc.RowsIn M e [.int .i64] x.yc (x.dc.map irow)
theorem OIn.mono {M M' : HL} {x : Op} (h : OIn M x) (hM : FLe M M') : OIn M' x :=
  ⟨h.a.imp fun _ h => h.mono hM, h.d.imp fun _ h => h.mono hM, h.c.imp fun _ h => h.mono hM⟩
def OsIn (M : HL) (l : List Op) : Prop := ∀ x ∈ l, OIn M x ∧ Fit x
theorem OsIn.mono {M M' : HL} {l : List Op} (h : OsIn M l) (hM : FLe M M') : OsIn M' l := fun x hx => ⟨(h x hx).1.mono hM, (h x hx).2⟩
theorem writes_run (M : HL) (K : SV → List Ent → HL → Prop) (x : Op) (hK : K (.v (.bool (wr x))) [] M) :
    runF G0 pf74 [.agg (osv x)] [] M fun v hp2 M2 => ∃ m v' hp', Wk (llen ([] : List Ent)) m [v] hp2 [v'] hp' (K v' hp' M2) := by
  unfold wr at hK
  repeat ((conv => whnf); (first | refine Cnd.yes ?_ | refine Cnd.no ?_ | refine And.intro rfl ?_ | refine aom ?_ | refine Alt.std ?_ | (show Ko_ _ _ _ _; subst hKo_) | refine ctt ?_ | refine cff ?_))
  conv => whnf
  refine Cnd.mk (fun h => ?_) fun h => ?_
  · rw [h, Bool.true_or] at hK
    repeat ((conv => whnf); (first | refine Cnd.yes ?_ | refine Cnd.no ?_ | refine And.intro rfl ?_ | refine aom ?_ | refine Alt.std ?_ | (show Ko_ _ _ _ _; subst hKo_) | refine ctt ?_ | refine cff ?_))
    conv => whnf
    refine ⟨[], .v (.bool true), [], ?_⟩
    repeat ((conv => whnf); (first | refine Cnd.yes ?_ | refine Cnd.no ?_ | refine And.intro rfl ?_ | refine aom ?_ | refine Alt.std ?_ | (show Ko_ _ _ _ _; subst hKo_)))
    conv => whnf
    exact hK
  · rw [h, Bool.false_or] at hK
    repeat ((conv => whnf); (first | refine Cnd.yes ?_ | refine Cnd.no ?_ | refine And.intro rfl ?_ | refine aom ?_ | refine Alt.std ?_ | (show Ko_ _ _ _ _; subst hKo_) | refine ctt ?_ | refine cff ?_))
    conv => whnf
    refine ⟨[], .v (.bool (x.k == 3)), [], ?_⟩
    repeat ((conv => whnf); (first | refine Cnd.yes ?_ | refine Cnd.no ?_ | refine And.intro rfl ?_ | refine aom ?_ | refine Alt.std ?_ | (show Ko_ _ _ _ _; subst hKo_)))
    conv => whnf
    exact hK
theorem reads_run (M : HL) (K : SV → List Ent → HL → Prop) (x : Op) (hK : K (.v (.bool (rd x))) [] M) :
    runF G0 pf76 [.agg (osv x)] [] M fun v hp2 M2 => ∃ m v' hp', Wk (llen ([] : List Ent)) m [v] hp2 [v'] hp' (K v' hp' M2) := by
  unfold rd at hK
  repeat ((conv => whnf); (first | refine Cnd.yes ?_ | refine Cnd.no ?_ | refine And.intro rfl ?_ | refine aom ?_ | refine Alt.std ?_ | (show Ko_ _ _ _ _; subst hKo_) | refine ctt ?_ | refine cff ?_))
  conv => whnf
  refine Cnd.mk (fun h => ?_) fun h => ?_
  · rw [h, Bool.true_or] at hK
    repeat ((conv => whnf); (first | refine Cnd.yes ?_ | refine Cnd.no ?_ | refine And.intro rfl ?_ | refine aom ?_ | refine Alt.std ?_ | (show Ko_ _ _ _ _; subst hKo_) | refine ctt ?_ | refine cff ?_))
    conv => whnf
    refine ⟨[], .v (.bool true), [], ?_⟩
    repeat ((conv => whnf); (first | refine Cnd.yes ?_ | refine Cnd.no ?_ | refine And.intro rfl ?_ | refine aom ?_ | refine Alt.std ?_ | (show Ko_ _ _ _ _; subst hKo_)))
    conv => whnf
    exact hK
  · rw [h, Bool.false_or] at hK
    repeat ((conv => whnf); (first | refine Cnd.yes ?_ | refine Cnd.no ?_ | refine And.intro rfl ?_ | refine aom ?_ | refine Alt.std ?_ | (show Ko_ _ _ _ _; subst hKo_) | refine ctt ?_ | refine cff ?_))
    conv => whnf
    refine ⟨[], .v (.bool (x.k == 3)), [], ?_⟩
    repeat ((conv => whnf); (first | refine Cnd.yes ?_ | refine Cnd.no ?_ | refine And.intro rfl ?_ | refine aom ?_ | refine Alt.std ?_ | (show Ko_ _ _ _ _; subst hKo_)))
    conv => whnf
    exact hK
theorem marked_run (M : HL) (K : SV → List Ent → HL → Prop) (x : Op) (hK : K (.v (.bool (mk x))) [] M) :
    runF G0 pf79 [.agg (osv x)] [] M fun v hp2 M2 => ∃ m v' hp', Wk (llen ([] : List Ent)) m [v] hp2 [v'] hp' (K v' hp' M2) := by
  unfold mk at hK
  repeat ((conv => whnf); (first | refine Cnd.yes ?_ | refine Cnd.no ?_ | refine And.intro rfl ?_ | refine aom ?_ | refine Alt.std ?_ | (show Ko_ _ _ _ _; subst hKo_) | refine ctt ?_ | refine cff ?_))
  conv => whnf
  refine Cnd.mk (fun h => ?_) fun h => ?_
  · rw [h, Bool.true_or] at hK
    repeat ((conv => whnf); (first | refine Cnd.yes ?_ | refine Cnd.no ?_ | refine And.intro rfl ?_ | refine aom ?_ | refine Alt.std ?_ | (show Ko_ _ _ _ _; subst hKo_) | refine ctt ?_ | refine cff ?_))
    conv => whnf
    refine ⟨[], .v (.bool true), [], ?_⟩
    repeat ((conv => whnf); (first | refine Cnd.yes ?_ | refine Cnd.no ?_ | refine And.intro rfl ?_ | refine aom ?_ | refine Alt.std ?_ | (show Ko_ _ _ _ _; subst hKo_)))
    conv => whnf
    exact hK
  · rw [h, Bool.false_or] at hK
    repeat ((conv => whnf); (first | refine Cnd.yes ?_ | refine Cnd.no ?_ | refine And.intro rfl ?_ | refine aom ?_ | refine Alt.std ?_ | (show Ko_ _ _ _ _; subst hKo_) | refine ctt ?_ | refine cff ?_))
    conv => whnf
    refine ⟨[], .v (.bool x.rl), [], ?_⟩
    repeat ((conv => whnf); (first | refine Cnd.yes ?_ | refine Cnd.no ?_ | refine And.intro rfl ?_ | refine aom ?_ | refine Alt.std ?_ | (show Ko_ _ _ _ _; subst hKo_)))
    conv => whnf
    exact hK
theorem span_run (M : HL) (K : SV → List Ent → HL → Prop) (x : Op) (hF : Fit x) (hK : K (.tup [.v (.int .i64 (opLo x)), .v (.int .i64 (opHi x))]) [] M) :
    runF G0 pf91 [.agg (osv x)] [] M fun v hp2 M2 => ∃ m v' hp', Wk (llen ([] : List Ent)) m [v] hp2 [v'] hp' (K v' hp' M2) := by
  unfold opLo opHi at hK
  obtain ⟨h1, h2, h3⟩ := hF
  by_cases hk : x.k = 4
  · rw [if_pos hk, if_pos hk] at hK
    repeat ((conv => whnf); (first | refine Cnd.yes ?_ | refine Cnd.no ?_ | refine And.intro rfl ?_ | refine aom ?_ | refine Alt.std ?_ | (show Ko_ _ _ _ _; subst hKo_) | refine ctt ?_ | refine cff ?_))
    conv => whnf
    refine ⟨[], .tup [.v (.int .i64 0), .v (.int .i64 0)], [], ?_⟩
    repeat ((conv => whnf); (first | refine Cnd.yes ?_ | refine Cnd.no ?_ | refine And.intro rfl ?_ | refine aom ?_ | refine Alt.std ?_ | (show Ko_ _ _ _ _; subst hKo_)))
    conv => whnf
    exact hK
  · rw [if_neg hk, if_neg hk] at hK
    have h3 := h3 hk
    have e1 : IntKind.i64.wrap x.ad = x.ad := by rw [IntKind.wrap_i64]; omega
    have e2 : IntKind.i64.wrap (x.ad + x.sz) = x.ad + x.sz := by rw [IntKind.wrap_i64]; omega
    repeat ((conv => whnf); (first | refine Cnd.yes ?_ | refine Cnd.no ?_ | refine And.intro rfl ?_ | refine aom ?_ | refine Alt.std ?_ | (show Ko_ _ _ _ _; subst hKo_) | refine ctt ?_ | refine cff ?_))
    conv => whnf
    refine ⟨[], .tup [.v (.int .i64 x.ad), .v (.int .i64 (x.ad + x.sz))], [], ?_⟩
    rw [e1, e2]
    repeat ((conv => whnf); (first | refine Cnd.yes ?_ | refine Cnd.no ?_ | refine And.intro rfl ?_ | refine aom ?_ | refine Alt.std ?_ | (show Ko_ _ _ _ _; subst hKo_)))
    conv => whnf
    exact hK
def writesS : Vc.Spec := fun args hp _ K => ∃ x : Op, args = [.agg (osv x)] ∧ hp = [] ∧ K (.v (.bool (wr x))) []
theorem writes_ok : SOK Tryd.prog 74 writesS := by
  refine TOK.weaken (TOK.out (runF_eq G0_ok mixed at74.1 at74.2 pf74_eq)) fun args hp M K h => ?_
  obtain ⟨x, rfl, rfl, h⟩ := h
  exact writes_run M K x h
def readsS : Vc.Spec := fun args hp _ K => ∃ x : Op, args = [.agg (osv x)] ∧ hp = [] ∧ K (.v (.bool (rd x))) []
theorem reads_ok : SOK Tryd.prog 76 readsS := by
  refine TOK.weaken (TOK.out (runF_eq G0_ok mixed at76.1 at76.2 pf76_eq)) fun args hp M K h => ?_
  obtain ⟨x, rfl, rfl, h⟩ := h
  exact reads_run M K x h
def markedS : Vc.Spec := fun args hp _ K => ∃ x : Op, args = [.agg (osv x)] ∧ hp = [] ∧ K (.v (.bool (mk x))) []
theorem marked_ok : SOK Tryd.prog 79 markedS := by
  refine TOK.weaken (TOK.out (runF_eq G0_ok mixed at79.1 at79.2 pf79_eq)) fun args hp M K h => ?_
  obtain ⟨x, rfl, rfl, h⟩ := h
  exact marked_run M K x h
def spanS : Vc.Spec := fun args hp _ K => ∃ x : Op, args = [.agg (osv x)] ∧ hp = [] ∧ Fit x ∧ K (.tup [.v (.int .i64 (opLo x)), .v (.int .i64 (opHi x))]) []
theorem span_ok : SOK Tryd.prog 91 spanS := by
  refine TOK.weaken (TOK.out (runF_eq G0_ok mixed at91.1 at91.2 pf91_eq)) fun args hp M K h => ?_
  obtain ⟨x, rfl, rfl, h1, h⟩ := h
  exact span_run M K x h1 h
theorem index_run (M : HL) (K : SV → List Ent → HL → Prop) (o : Bool) (e : TypeId) (l : List Int) (p : Int) (hl : l.length ≤ 1000000) (hK : ∀ k : Int, decide (k ≥ 0) = decide (p ∈ l) → K (.v (.int .i64 k)) [.row o e [.int .i64] (l.map irow)] M) :
    runF G0 pf93 [.slc 0 1 0 l.length, .v (.int .i64 p)] [.row o e [.int .i64] (l.map irow)] M K := by
  repeat ((conv => whnf); (first | refine Cnd.yes ?_ | refine Cnd.no ?_ | refine And.intro rfl ?_ | refine aom ?_ | refine Alt.std ?_ | (show Ko_ _ _ _ _; subst hKo_) | refine ctt ?_ | refine cff ?_))
  conv => whnf
  refine ⟨InvS 19 (fun s : Nat => l.length - s) (fun s : Nat => s ≤ l.length ∧ ∀ j, j < s → l.getD j 0 ≠ p) (fun s : Nat => [(0, .slc 0 1 0 l.length), (1, .v (.int .i64 p)), (7, .v (.int .i64 l.length)), (8, .v (.int .i64 s))]) (fun s : Nat => [Ent.row o e [.int .i64] (l.map irow)]) M, ⟨(fun s : Nat => l.length - s) 0, [0], tmk 19 0 ((fun s : Nat => [(0, .slc 0 1 0 l.length), (1, .v (.int .i64 p)), (7, .v (.int .i64 l.length)), (8, .v (.int .i64 s))]) 0), (fun s : Nat => [Ent.row o e [.int .i64] (l.map irow)]) 0, ?_⟩, ?_⟩
  · repeat ((conv => whnf); (first | refine Cnd.yes ?_ | refine Cnd.no ?_ | refine And.intro rfl ?_ | refine aom ?_ | refine Alt.std ?_ | (show Ko_ _ _ _ _; subst hKo_)))
    conv => whnf
    exact ⟨0, ⟨by omega, fun j hj => by omega⟩, rfl, rfl, (tmkK_eq _ _ _ _).mpr rfl, rfl⟩
  · rintro Ko_ hKo_ cnt tm hp M1 ⟨i, hC_, rfl, rfl, htm, hhp_⟩
    replace hC_ : i ≤ l.length ∧ ∀ j, j < i → l.getD j 0 ≠ p := hC_
    obtain ⟨hi, hall⟩ := hC_
    replace htm : tmkK 19 0 [(0, .slc 0 1 0 l.length), (1, .v (.int .i64 p)), (7, .v (.int .i64 l.length)), (8, .v (.int .i64 i))] (fun l => tm = l) := htm
    conv at htm => whnf
    subst htm
    replace hhp_ : hp = [Ent.row o e [.int .i64] (l.map irow)] := hhp_
    subst hhp_
    repeat ((conv => whnf); (first | refine Cnd.yes ?_ | refine Cnd.no ?_ | refine And.intro rfl ?_ | refine aom ?_ | refine Alt.std ?_ | (show Ko_ _ _ _ _; subst hKo_) | refine ctt ?_ | refine cff ?_))
    conv => whnf
    refine Cnd.mk (fun hlt => ?_) fun hge => ?_
    · have hin : i < l.length := by have := of_decide_eq_true hlt; omega
      have e0 := toI_i hin
      repeat ((conv => whnf); (first | refine Cnd.yes ?_ | refine Cnd.no ?_ | refine And.intro rfl ?_ | refine aom ?_ | refine Alt.std ?_ | (show Ko_ _ _ _ _; subst hKo_) | refine ctt ?_ | refine cff ?_))
      conv => whnf
      rw [e0]
      by_cases hp : l.getD i 0 = p
      · repeat ((conv => whnf); (first | refine Cnd.yes ?_ | refine Cnd.no ?_ | refine And.intro rfl ?_ | refine aom ?_ | refine Alt.std ?_ | (show Ko_ _ _ _ _; subst hKo_) | refine ctt ?_ | refine cff ?_))
        conv => whnf
        exact hK _ (by rw [decide_eq_true (show p ∈ l by rw [← hp]; simp [List.getD, hin]), decide_eq_true (by omega)])
      · repeat ((conv => whnf); (first | refine Cnd.yes ?_ | refine Cnd.no ?_ | refine And.intro rfl ?_ | refine aom ?_ | refine Alt.std ?_ | (show Ko_ _ _ _ _; subst hKo_) | refine ctt ?_ | refine cff ?_))
        conv => whnf
        (refine ⟨(fun s : Nat => l.length - s) (i + 1), [0], tmk 19 0 ((fun s : Nat => [(0, .slc 0 1 0 l.length), (1, .v (.int .i64 p)), (7, .v (.int .i64 l.length)), (8, .v (.int .i64 s))]) (i + 1)), (fun s : Nat => [Ent.row o e [.int .i64] (l.map irow)]) (i + 1), ?_, ?_⟩; focus (first | (simp only []; omega) | omega))
        repeat ((conv => whnf); (first | refine Cnd.yes ?_ | refine Cnd.no ?_ | refine And.intro rfl ?_ | refine aom ?_ | refine Alt.std ?_ | (show Ko_ _ _ _ _; subst hKo_)))
        conv => whnf
        exact ⟨i + 1, ⟨by omega, fun j hj => by rcases Nat.lt_succ_iff_lt_or_eq.1 hj with h | h; exact hall j h; rw [h]; exact hp⟩, rfl, rfl, (tmkK_eq _ _ _ _).mpr rfl, rfl⟩
    · have hin : i = l.length := by have := of_decide_eq_false hge; omega
      repeat ((conv => whnf); (first | refine Cnd.yes ?_ | refine Cnd.no ?_ | refine And.intro rfl ?_ | refine aom ?_ | refine Alt.std ?_ | (show Ko_ _ _ _ _; subst hKo_) | refine ctt ?_ | refine cff ?_))
      conv => whnf
      exact hK _ (by rw [decide_eq_false (show ¬ p ∈ l from fun hm => by
          obtain ⟨j, hj, h⟩ := List.getElem_of_mem hm
          exact hall j (by omega) (by simpa [List.getD, hj] using h)), decide_eq_false (by omega)])
def indexS : Vc.Spec := fun args hp _ K => ∃ (o : Bool) (e : TypeId) (l : List Int) (p : Int), args = [.slc 0 1 0 l.length, .v (.int .i64 p)] ∧ hp = [.row o e [.int .i64] (l.map irow)] ∧ l.length ≤ 1000000 ∧ ∀ k : Int, decide (k ≥ 0) = decide (p ∈ l) → K (.v (.int .i64 k)) [.row o e [.int .i64] (l.map irow)]
theorem index_ok : SOK Tryd.prog 93 indexS := by
  refine TOK.weaken (runF_eq G0_ok mixed at93.1 at93.2 pf93_eq) fun args hp M K h => ?_
  obtain ⟨o, e, l, p, rfl, rfl, h1, h2⟩ := h
  exact index_run M K o e l p h1 h2
noncomputable def specs1 : Nat → Option Vc.Trans := tget [(74, frameT writesS), (76, frameT readsS), (79, frameT markedS), (91, frameT spanS), (93, frameT indexS)]
noncomputable def G1 : Nat → Option Vc.Trans := tabG specs1 (tget tab) 5
theorem G1_ok : GOK Tryd.prog G1 := tabG_ok (GOK.cons (frame_ok writes_ok) (GOK.cons (frame_ok reads_ok) (GOK.cons (frame_ok marked_ok) (GOK.cons (frame_ok span_ok) (GOK.cons (frame_ok index_ok) .nil))))) tab_ok 5
theorem cont_run (M : HL) (K : SV → List Ent → HL → Prop) (o : Bool) (e : TypeId) (l : List Int) (p : Int) (hl : l.length ≤ 1000000) (hK : K (.v (.bool (decide (p ∈ l)))) [.row o e [.int .i64] (l.map irow)] M) :
    runF G1 pf80 [.slc 0 1 0 l.length, .v (.int .i64 p)] [.row o e [.int .i64] (l.map irow)] M K := by
  repeat ((conv => whnf); (first | refine Cnd.yes ?_ | refine Cnd.no ?_ | refine And.intro rfl ?_ | refine aom ?_ | refine Alt.std ?_ | (show Ko_ _ _ _ _; subst hKo_) | refine ctt ?_ | refine cff ?_))
  conv => whnf
  refine ⟨o, e, l, p, rfl, rfl, hl, fun k hk => ?_⟩
  repeat ((conv => whnf); (first | refine Cnd.yes ?_ | refine Cnd.no ?_ | refine And.intro rfl ?_ | refine aom ?_ | refine Alt.std ?_ | (show Ko_ _ _ _ _; subst hKo_) | refine ctt ?_ | refine cff ?_))
  conv => whnf
  rw [hk]
  exact hK
def contS : Vc.Spec := fun args hp _ K => ∃ (o : Bool) (e : TypeId) (l : List Int) (p : Int), args = [.slc 0 1 0 l.length, .v (.int .i64 p)] ∧ hp = [.row o e [.int .i64] (l.map irow)] ∧ l.length ≤ 1000000 ∧ K (.v (.bool (decide (p ∈ l)))) [.row o e [.int .i64] (l.map irow)]
theorem cont_ok : SOK Tryd.prog 80 contS := by
  refine TOK.weaken (runF_eq G1_ok mixed at80.1 at80.2 pf80_eq) fun args hp M K h => ?_
  obtain ⟨o, e, l, p, rfl, rfl, h1, h2⟩ := h
  exact cont_run M K o e l p h1 h2
/-- A set's bit. -/
def bitB (s b : Int) : Bool := IntKind.i64.wrap (BitVec.ofInt IntKind.i64.bits s &&& BitVec.ofInt IntKind.i64.bits b).toNat != 0
def byB (s : Int) (x : Op) : Bool := (rd x && bitB s 1) || (wr x && bitB s 2)
theorem by_run (M : HL) (K : SV → List Ent → HL → Prop) (s : Int) (x : Op) (hK : K (.v (.bool (byB s x))) [] M) :
    runF G1 pf92 [.v (.int .i64 s), .agg (osv x)] [] M fun v hp2 M2 => ∃ m v' hp', Wk (llen ([] : List Ent)) m [v] hp2 [v'] hp' (K v' hp' M2) := by
  unfold byB at hK
  repeat ((conv => whnf); (first | refine Cnd.yes ?_ | refine Cnd.no ?_ | refine And.intro rfl ?_ | refine aom ?_ | refine Alt.std ?_ | (show Ko_ _ _ _ _; subst hKo_) | refine ctt ?_ | refine cff ?_))
  conv => whnf
  refine ⟨x, rfl, rfl, ?_⟩
  have e1 : (IntKind.i64.wrap (BitVec.ofInt IntKind.i64.bits s &&& BitVec.ofInt IntKind.i64.bits 1).toNat != 0) = bitB s 1 := rfl
  have e2 : (IntKind.i64.wrap (BitVec.ofInt IntKind.i64.bits s &&& BitVec.ofInt IntKind.i64.bits 2).toNat != 0) = bitB s 2 := rfl
  cases hr : rd x with
  | true =>
    rw [hr, Bool.true_and] at hK
    repeat ((conv => whnf); (first | refine Cnd.yes ?_ | refine Cnd.no ?_ | refine And.intro rfl ?_ | refine aom ?_ | refine Alt.std ?_ | (show Ko_ _ _ _ _; subst hKo_) | refine ctt ?_ | refine cff ?_))
    conv => whnf
    rw [e1]
    cases hb : bitB s 1 with
    | true =>
      rw [hb, Bool.true_or] at hK
      repeat ((conv => whnf); (first | refine Cnd.yes ?_ | refine Cnd.no ?_ | refine And.intro rfl ?_ | refine aom ?_ | refine Alt.std ?_ | (show Ko_ _ _ _ _; subst hKo_) | refine ctt ?_ | refine cff ?_))
      conv => whnf
      refine ⟨[], .v (.bool true), [], ?_⟩
      repeat ((conv => whnf); (first | refine Cnd.yes ?_ | refine Cnd.no ?_ | refine And.intro rfl ?_ | refine aom ?_ | refine Alt.std ?_ | (show Ko_ _ _ _ _; subst hKo_)))
      conv => whnf
      exact hK
    | false =>
      rw [hb, Bool.false_or] at hK
      repeat ((conv => whnf); (first | refine Cnd.yes ?_ | refine Cnd.no ?_ | refine And.intro rfl ?_ | refine aom ?_ | refine Alt.std ?_ | (show Ko_ _ _ _ _; subst hKo_) | refine ctt ?_ | refine cff ?_))
      conv => whnf
      refine ⟨x, rfl, rfl, ?_⟩
      cases hw : wr x with
      | true =>
        rw [hw, Bool.true_and] at hK
        repeat ((conv => whnf); (first | refine Cnd.yes ?_ | refine Cnd.no ?_ | refine And.intro rfl ?_ | refine aom ?_ | refine Alt.std ?_ | (show Ko_ _ _ _ _; subst hKo_) | refine ctt ?_ | refine cff ?_))
        conv => whnf
        rw [e2]
        refine ⟨[], .v (.bool (bitB s 2)), [], ?_⟩
        repeat ((conv => whnf); (first | refine Cnd.yes ?_ | refine Cnd.no ?_ | refine And.intro rfl ?_ | refine aom ?_ | refine Alt.std ?_ | (show Ko_ _ _ _ _; subst hKo_)))
        conv => whnf
        exact hK
      | false =>
        rw [hw, Bool.false_and] at hK
        repeat ((conv => whnf); (first | refine Cnd.yes ?_ | refine Cnd.no ?_ | refine And.intro rfl ?_ | refine aom ?_ | refine Alt.std ?_ | (show Ko_ _ _ _ _; subst hKo_) | refine ctt ?_ | refine cff ?_))
        conv => whnf
        refine ⟨[], .v (.bool false), [], ?_⟩
        repeat ((conv => whnf); (first | refine Cnd.yes ?_ | refine Cnd.no ?_ | refine And.intro rfl ?_ | refine aom ?_ | refine Alt.std ?_ | (show Ko_ _ _ _ _; subst hKo_)))
        conv => whnf
        exact hK
  | false =>
    rw [hr, Bool.false_and, Bool.false_or] at hK
    repeat ((conv => whnf); (first | refine Cnd.yes ?_ | refine Cnd.no ?_ | refine And.intro rfl ?_ | refine aom ?_ | refine Alt.std ?_ | (show Ko_ _ _ _ _; subst hKo_) | refine ctt ?_ | refine cff ?_))
    conv => whnf
    refine ⟨x, rfl, rfl, ?_⟩
    cases hw : wr x with
    | true =>
      rw [hw, Bool.true_and] at hK
      repeat ((conv => whnf); (first | refine Cnd.yes ?_ | refine Cnd.no ?_ | refine And.intro rfl ?_ | refine aom ?_ | refine Alt.std ?_ | (show Ko_ _ _ _ _; subst hKo_) | refine ctt ?_ | refine cff ?_))
      conv => whnf
      rw [e2]
      refine ⟨[], .v (.bool (bitB s 2)), [], ?_⟩
      repeat ((conv => whnf); (first | refine Cnd.yes ?_ | refine Cnd.no ?_ | refine And.intro rfl ?_ | refine aom ?_ | refine Alt.std ?_ | (show Ko_ _ _ _ _; subst hKo_)))
      conv => whnf
      exact hK
    | false =>
      rw [hw, Bool.false_and] at hK
      repeat ((conv => whnf); (first | refine Cnd.yes ?_ | refine Cnd.no ?_ | refine And.intro rfl ?_ | refine aom ?_ | refine Alt.std ?_ | (show Ko_ _ _ _ _; subst hKo_) | refine ctt ?_ | refine cff ?_))
      conv => whnf
      refine ⟨[], .v (.bool false), [], ?_⟩
      repeat ((conv => whnf); (first | refine Cnd.yes ?_ | refine Cnd.no ?_ | refine And.intro rfl ?_ | refine aom ?_ | refine Alt.std ?_ | (show Ko_ _ _ _ _; subst hKo_)))
      conv => whnf
      exact hK
def byS : Vc.Spec := fun args hp _ K => ∃ (s : Int) (x : Op), args = [.v (.int .i64 s), .agg (osv x)] ∧ hp = [] ∧ K (.v (.bool (byB s x))) []
theorem by_ok : SOK Tryd.prog 92 byS := by
  refine TOK.weaken (TOK.out (runF_eq G1_ok mixed at92.1 at92.2 pf92_eq)) fun args hp M K h => ?_
  obtain ⟨s, x, rfl, rfl, h⟩ := h
  exact by_run M K s x h
end Go.Proofs.YtkfkoldaeplckaaDoor
/-
  meet, over, barred, placed, walked; their contracts.
-/
namespace Go.Proofs.YtkfkoldaeplckaaDoor
open Go Go.Vc
set_option maxRecDepth 100000
set_option linter.unusedSimpArgs false
set_option linter.unusedVariables false
set_option maxHeartbeats 4000000
theorem ocell (l : List Op) {j : Nat} (hj : j < l.length) (f : Nat) : cellAt (l.map orow) j f = (orow (l.getD j default)).getD f undef := by
  simp [cellAt, List.getD, hj]
def mxF (a : Int) (x : Op) : Int := if opLo x > a then opLo x else a
def mnF (a : Int) (x : Op) : Int := if opHi x < a then opHi x else a
def meetB (l : List Op) : Bool := decide (l.tail.foldl mxF (opLo (l.getD 0 default)) < l.tail.foldl mnF (opHi (l.getD 0 default)))
theorem foldl_step {α : Type} (f : α → Op → α) (a : α) (l : List Op) {i : Nat} (hi : i < l.length) : (l.take (i + 1)).foldl f a = f ((l.take i).foldl f a) (l.getD i default) := by
  rw [List.take_succ_eq_append_getElem hi, List.foldl_append]
  simp [List.getD, hi]
noncomputable def specs2 : Nat → Option Vc.Trans := tget [(74, frameT writesS), (76, frameT readsS), (79, frameT markedS), (80, openAtG (frameT contS) 0), (91, frameT spanS), (92, frameT byS)]
noncomputable def G2 : Nat → Option Vc.Trans := tabG specs2 (tget tab) 5
theorem G2_ok : GOK Tryd.prog G2 := tabG_ok (GOK.cons (frame_ok writes_ok) (GOK.cons (frame_ok reads_ok) (GOK.cons (frame_ok marked_ok) (GOK.cons (openAtG_ok (frame_ok cont_ok) 0) (GOK.cons (frame_ok span_ok) (GOK.cons (frame_ok by_ok) .nil)))))) tab_ok 5
theorem meet_run (M : HL) (K : SV → List Ent → HL → Prop) (o : Bool) (e : TypeId) (l : List Op) (h0 : 0 < l.length) (hl : l.length ≤ 1000) (hF : ∀ x ∈ l, Fit x) (hK : K (.v (.bool (meetB l))) [.row o e ock (l.map orow)] M) :
    runF G2 pf75 [.slc 0 13 0 l.length] [.row o e ock (l.map orow)] M fun v hp2 M2 => ∃ m v' hp', Wk (llen [Ent.row o e ock (l.map orow)]) m [v] hp2 [v'] hp' (K v' hp' M2) := by
  have hf0 := hF (l.getD 0 default) (by simp [List.getD, h0])
  obtain ⟨y, hy⟩ : ∃ y, l.getD 0 default = y := ⟨_, rfl⟩
  have hy0 : l.getD (0 + Int.toNat 0) default = y := hy
  rw [hy] at hf0
  unfold meetB at hK
  rw [hy] at hK
  have c0 : toI (cellAt (List.map orow l) (0 + Int.toNat 0) 0) = Op.k y := by rw [ocell l (show 0 + Int.toNat 0 < l.length from h0), hy0]; rfl
  have c1 : toI (cellAt (List.map orow l) (0 + Int.toNat 0) (0 + 1)) = Op.sz y := by rw [ocell l (show 0 + Int.toNat 0 < l.length from h0), hy0]; rfl
  have c2 : toI (cellAt (List.map orow l) (0 + Int.toNat 0) (0 + 1 + 1)) = Op.ad y := by rw [ocell l (show 0 + Int.toNat 0 < l.length from h0), hy0]; rfl
  have c3 : toI (cellAt (List.map orow l) (0 + Int.toNat 0) (0 + 1 + 1 + 1)) = Op.v y := by rw [ocell l (show 0 + Int.toNat 0 < l.length from h0), hy0]; rfl
  have c4 : toI (cellAt (List.map orow l) (0 + Int.toNat 0) (0 + 1 + 1 + 1 + 1)) = Op.g y := by rw [ocell l (show 0 + Int.toNat 0 < l.length from h0), hy0]; rfl
  have c5 : toB (cellAt (List.map orow l) (0 + Int.toNat 0) (0 + 1 + 1 + 1 + 1 + 1)) = Op.pr y := by rw [ocell l (show 0 + Int.toNat 0 < l.length from h0), hy0]; rfl
  have c6 : toB (cellAt (List.map orow l) (0 + Int.toNat 0) (0 + 1 + 1 + 1 + 1 + 1 + 1)) = Op.aq y := by rw [ocell l (show 0 + Int.toNat 0 < l.length from h0), hy0]; rfl
  have c7 : toB (cellAt (List.map orow l) (0 + Int.toNat 0) (0 + 1 + 1 + 1 + 1 + 1 + 1 + 1)) = Op.rl y := by rw [ocell l (show 0 + Int.toNat 0 < l.length from h0), hy0]; rfl
  have c8 : toI (cellAt (List.map orow l) (0 + Int.toNat 0) (0 + 1 + 1 + 1 + 1 + 1 + 1 + 1 + 1)) = Op.pd y := by rw [ocell l (show 0 + Int.toNat 0 < l.length from h0), hy0]; rfl
  have c9 : toI (cellAt (List.map orow l) (0 + Int.toNat 0) (0 + 1 + 1 + 1 + 1 + 1 + 1 + 1 + 1 + 1)) = Op.sc y := by rw [ocell l (show 0 + Int.toNat 0 < l.length from h0), hy0]; rfl
  have c10 : cellAt (List.map orow l) (0 + Int.toNat 0) (0 + 1 + 1 + 1 + 1 + 1 + 1 + 1 + 1 + 1 + 1) = Op.ya y := by rw [ocell l (show 0 + Int.toNat 0 < l.length from h0), hy0]; rfl
  have c11 : cellAt (List.map orow l) (0 + Int.toNat 0) (0 + 1 + 1 + 1 + 1 + 1 + 1 + 1 + 1 + 1 + 1 + 1) = Op.yd y := by rw [ocell l (show 0 + Int.toNat 0 < l.length from h0), hy0]; rfl
  have c12 : cellAt (List.map orow l) (0 + Int.toNat 0) (0 + 1 + 1 + 1 + 1 + 1 + 1 + 1 + 1 + 1 + 1 + 1 + 1) = Op.yc y := by rw [ocell l (show 0 + Int.toNat 0 < l.length from h0), hy0]; rfl
  have hT : l.tail.length = l.length - 1 := List.length_tail
  repeat ((conv => whnf); (first | refine Cnd.yes ?_ | refine Cnd.no ?_ | refine And.intro rfl ?_ | refine aom ?_ | refine Alt.std ?_ | (show Ko_ _ _ _ _; subst hKo_) | refine ctt ?_ | refine cff ?_))
  conv => whnf
  rw [c0, c1, c2, c3, c4, c5, c6, c7, c8, c9, c10, c11, c12]
  clear c0 c1 c2 c3 c4 c5 c6 c7 c8 c9 c10 c11 c12
  refine ⟨y, rfl, rfl, hf0, ?_⟩
  repeat ((conv => whnf); (first | refine Cnd.yes ?_ | refine Cnd.no ?_ | refine And.intro rfl ?_ | refine aom ?_ | refine Alt.std ?_ | (show Ko_ _ _ _ _; subst hKo_) | refine ctt ?_ | refine cff ?_))
  conv => whnf
  refine ⟨InvS 38 (fun s : Nat => l.length - s) (fun s : Nat => s ≤ l.tail.length) (fun s : Nat => [(3, .v (.int .i64 ((l.tail.take s).foldl mxF (opLo y)))), (4, .v (.int .i64 ((l.tail.take s).foldl mnF (opHi y)))), (17, .slc 0 13 1 (l.length - 1)), (18, .v (.int .i64 (l.length - 1 : Nat))), (19, .v (.int .i64 s))]) (fun s : Nat => [Ent.row o e ock (l.map orow)]) M, ⟨(fun s : Nat => l.length - s) 0, [0], tmk 38 0 ((fun s : Nat => [(3, .v (.int .i64 ((l.tail.take s).foldl mxF (opLo y)))), (4, .v (.int .i64 ((l.tail.take s).foldl mnF (opHi y)))), (17, .slc 0 13 1 (l.length - 1)), (18, .v (.int .i64 (l.length - 1 : Nat))), (19, .v (.int .i64 s))]) 0), (fun s : Nat => [Ent.row o e ock (l.map orow)]) 0, ?_⟩, ?_⟩
  · repeat ((conv => whnf); (first | refine Cnd.yes ?_ | refine Cnd.no ?_ | refine And.intro rfl ?_ | refine aom ?_ | refine Alt.std ?_ | (show Ko_ _ _ _ _; subst hKo_)))
    conv => whnf
    exact ⟨0, Nat.zero_le _, rfl, rfl, (tmkK_eq _ _ _ _).mpr rfl, rfl⟩
  · rintro Ko_ hKo_ cnt tm hp M1 ⟨i, hC_, rfl, rfl, htm, hhp_⟩
    replace hC_ : i ≤ l.tail.length := hC_
    have hi := hC_
    replace htm : tmkK 38 0 [(3, .v (.int .i64 ((l.tail.take i).foldl mxF (opLo y)))), (4, .v (.int .i64 ((l.tail.take i).foldl mnF (opHi y)))), (17, .slc 0 13 1 (l.length - 1)), (18, .v (.int .i64 (l.length - 1 : Nat))), (19, .v (.int .i64 i))] (fun l => tm = l) := htm
    conv at htm => whnf
    subst htm
    replace hhp_ : hp = [Ent.row o e ock (l.map orow)] := hhp_
    subst hhp_
    repeat ((conv => whnf); (first | refine Cnd.yes ?_ | refine Cnd.no ?_ | refine And.intro rfl ?_ | refine aom ?_ | refine Alt.std ?_ | (show Ko_ _ _ _ _; subst hKo_) | refine ctt ?_ | refine cff ?_))
    conv => whnf
    refine Cnd.mk (fun hlt => ?_) fun hge => ?_
    · have hin : i < l.tail.length := by have := of_decide_eq_true hlt; omega
      have hfi := hF (l.getD (1 + i) default) (by simp [List.getD, show 1 + i < l.length by omega])
      have hti : l.tail.getD i default = l.getD (1 + i) default := by simp [List.getD, Nat.add_comm 1 i]
      obtain ⟨z, hz⟩ : ∃ z, l.getD (1 + i) default = z := ⟨_, rfl⟩
      have hz0 : l.getD (1 + (i : Int).toNat) default = z := hz
      have s1 := foldl_step mxF (opLo y) l.tail hin
      have s2 := foldl_step mnF (opHi y) l.tail hin
      rw [hti, hz] at s1 s2
      rw [hz] at hfi
      have c0 : toI (cellAt (List.map orow l) (1 + (i : Int).toNat) 0) = Op.k z := by rw [ocell l (show 1 + (i : Int).toNat < l.length by omega), hz0]; rfl
      have c1 : toI (cellAt (List.map orow l) (1 + (i : Int).toNat) (0 + 1)) = Op.sz z := by rw [ocell l (show 1 + (i : Int).toNat < l.length by omega), hz0]; rfl
      have c2 : toI (cellAt (List.map orow l) (1 + (i : Int).toNat) (0 + 1 + 1)) = Op.ad z := by rw [ocell l (show 1 + (i : Int).toNat < l.length by omega), hz0]; rfl
      have c3 : toI (cellAt (List.map orow l) (1 + (i : Int).toNat) (0 + 1 + 1 + 1)) = Op.v z := by rw [ocell l (show 1 + (i : Int).toNat < l.length by omega), hz0]; rfl
      have c4 : toI (cellAt (List.map orow l) (1 + (i : Int).toNat) (0 + 1 + 1 + 1 + 1)) = Op.g z := by rw [ocell l (show 1 + (i : Int).toNat < l.length by omega), hz0]; rfl
      have c5 : toB (cellAt (List.map orow l) (1 + (i : Int).toNat) (0 + 1 + 1 + 1 + 1 + 1)) = Op.pr z := by rw [ocell l (show 1 + (i : Int).toNat < l.length by omega), hz0]; rfl
      have c6 : toB (cellAt (List.map orow l) (1 + (i : Int).toNat) (0 + 1 + 1 + 1 + 1 + 1 + 1)) = Op.aq z := by rw [ocell l (show 1 + (i : Int).toNat < l.length by omega), hz0]; rfl
      have c7 : toB (cellAt (List.map orow l) (1 + (i : Int).toNat) (0 + 1 + 1 + 1 + 1 + 1 + 1 + 1)) = Op.rl z := by rw [ocell l (show 1 + (i : Int).toNat < l.length by omega), hz0]; rfl
      have c8 : toI (cellAt (List.map orow l) (1 + (i : Int).toNat) (0 + 1 + 1 + 1 + 1 + 1 + 1 + 1 + 1)) = Op.pd z := by rw [ocell l (show 1 + (i : Int).toNat < l.length by omega), hz0]; rfl
      have c9 : toI (cellAt (List.map orow l) (1 + (i : Int).toNat) (0 + 1 + 1 + 1 + 1 + 1 + 1 + 1 + 1 + 1)) = Op.sc z := by rw [ocell l (show 1 + (i : Int).toNat < l.length by omega), hz0]; rfl
      have c10 : cellAt (List.map orow l) (1 + (i : Int).toNat) (0 + 1 + 1 + 1 + 1 + 1 + 1 + 1 + 1 + 1 + 1) = Op.ya z := by rw [ocell l (show 1 + (i : Int).toNat < l.length by omega), hz0]; rfl
      have c11 : cellAt (List.map orow l) (1 + (i : Int).toNat) (0 + 1 + 1 + 1 + 1 + 1 + 1 + 1 + 1 + 1 + 1 + 1) = Op.yd z := by rw [ocell l (show 1 + (i : Int).toNat < l.length by omega), hz0]; rfl
      have c12 : cellAt (List.map orow l) (1 + (i : Int).toNat) (0 + 1 + 1 + 1 + 1 + 1 + 1 + 1 + 1 + 1 + 1 + 1 + 1) = Op.yc z := by rw [ocell l (show 1 + (i : Int).toNat < l.length by omega), hz0]; rfl
      repeat ((conv => whnf); (first | refine Cnd.yes ?_ | refine Cnd.no ?_ | refine And.intro rfl ?_ | refine aom ?_ | refine Alt.std ?_ | (show Ko_ _ _ _ _; subst hKo_) | refine ctt ?_ | refine cff ?_))
      conv => whnf
      rw [c0, c1, c2, c3, c4, c5, c6, c7, c8, c9, c10, c11, c12]
      clear c0 c1 c2 c3 c4 c5 c6 c7 c8 c9 c10 c11 c12
      repeat ((conv => whnf); (first | refine Cnd.yes ?_ | refine Cnd.no ?_ | refine And.intro rfl ?_ | refine aom ?_ | refine Alt.std ?_ | (show Ko_ _ _ _ _; subst hKo_) | refine ctt ?_ | refine cff ?_))
      conv => whnf
      refine ⟨z, rfl, rfl, hfi, ?_⟩
      repeat ((conv => whnf); (first | refine Cnd.yes ?_ | refine Cnd.no ?_ | refine And.intro rfl ?_ | refine aom ?_ | refine Alt.std ?_ | (show Ko_ _ _ _ _; subst hKo_) | refine ctt ?_ | refine cff ?_))
      conv => whnf
      (refine ⟨(fun s : Nat => l.length - s) (i + 1), [0], tmk 38 0 ((fun s : Nat => [(3, .v (.int .i64 ((l.tail.take s).foldl mxF (opLo y)))), (4, .v (.int .i64 ((l.tail.take s).foldl mnF (opHi y)))), (17, .slc 0 13 1 (l.length - 1)), (18, .v (.int .i64 (l.length - 1 : Nat))), (19, .v (.int .i64 s))]) (i + 1)), (fun s : Nat => [Ent.row o e ock (l.map orow)]) (i + 1), ?_, ?_⟩; focus (first | (simp only []; omega) | omega))
      repeat ((conv => whnf); (first | refine Cnd.yes ?_ | refine Cnd.no ?_ | refine And.intro rfl ?_ | refine aom ?_ | refine Alt.std ?_ | (show Ko_ _ _ _ _; subst hKo_)))
      conv => whnf
      refine ⟨by rw [s1]; rfl, ?_⟩
      repeat ((conv => whnf); (first | refine Cnd.yes ?_ | refine Cnd.no ?_ | refine And.intro rfl ?_ | refine aom ?_ | refine Alt.std ?_ | (show Ko_ _ _ _ _; subst hKo_)))
      conv => whnf
      refine ⟨by rw [s2]; rfl, ?_⟩
      repeat ((conv => whnf); (first | refine Cnd.yes ?_ | refine Cnd.no ?_ | refine And.intro rfl ?_ | refine aom ?_ | refine Alt.std ?_ | (show Ko_ _ _ _ _; subst hKo_)))
      conv => whnf
      exact ⟨i + 1, hin, rfl, rfl, (tmkK_eq _ _ _ _).mpr rfl, rfl⟩
    · have hin : i = l.tail.length := by have := of_decide_eq_false hge; omega
      subst hin
      rw [List.take_of_length_le (Nat.le_refl _)]
      repeat ((conv => whnf); (first | refine Cnd.yes ?_ | refine Cnd.no ?_ | refine And.intro rfl ?_ | refine aom ?_ | refine Alt.std ?_ | (show Ko_ _ _ _ _; subst hKo_) | refine ctt ?_ | refine cff ?_))
      conv => whnf
      refine ⟨[0], .v (.bool (decide (l.tail.foldl mxF (opLo y) < l.tail.foldl mnF (opHi y)))), [.row o e ock (l.map orow)], ?_⟩
      repeat ((conv => whnf); (first | refine Cnd.yes ?_ | refine Cnd.no ?_ | refine And.intro rfl ?_ | refine aom ?_ | refine Alt.std ?_ | (show Ko_ _ _ _ _; subst hKo_)))
      conv => whnf
      exact hK
def meetS : Vc.Spec := fun args hp _ K => ∃ (o : Bool) (e : TypeId) (l : List Op), args = [.slc 0 13 0 l.length] ∧ hp = [.row o e ock (l.map orow)] ∧ 0 < l.length ∧ l.length ≤ 1000 ∧ (∀ x ∈ l, Fit x) ∧ K (.v (.bool (meetB l))) [.row o e ock (l.map orow)]
theorem meet_ok : SOK Tryd.prog 75 meetS := by
  refine TOK.weaken (TOK.out (runF_eq G2_ok mixed at75.1 at75.2 pf75_eq)) fun args hp M K h => ?_
  obtain ⟨o, e, l, rfl, rfl, h1, h2, h3, h4⟩ := h
  exact meet_run M K o e l h1 h2 h3 h4
end Go.Proofs.YtkfkoldaeplckaaDoor
/-
  over, barred, placed, through, walked; their contracts.
-/
namespace Go.Proofs.YtkfkoldaeplckaaDoor
open Go Go.Vc
set_option maxRecDepth 100000
set_option linter.unusedSimpArgs false
set_option linter.unusedVariables false
set_option maxHeartbeats 4000000
def anyB (n : Nat) (p : Nat → Bool) : Bool := (List.range n).any p
theorem anyB_true {n : Nat} {p : Nat → Bool} {j : Nat} (hj : j < n) (h : p j = true) : anyB n p = true := List.any_eq_true.2 ⟨j, List.mem_range.2 hj, h⟩
theorem anyB_false {n : Nat} {p : Nat → Bool} (h : ∀ j, j < n → p j = false) : anyB n p = false := by
  rw [anyB, List.any_eq_false]
  intro j hj
  rw [h j (List.mem_range.1 hj)]
  simp
theorem all_next {p : Nat → Bool} {i : Nat} (h : ∀ j, j < i → p j = false) (hi : p i = false) : ∀ j, j < i + 1 → p j = false := fun j hj => by
  rcases Nat.lt_succ_iff_lt_or_eq.1 hj with h1 | h1
  · exact h j h1
  · rw [h1]; exact hi
noncomputable def specs3 : Nat → Option Vc.Trans := tget [(74, frameT writesS), (75, frameT meetS), (76, frameT readsS), (79, frameT markedS), (80, openAtG (frameT contS) 0), (91, frameT spanS), (92, frameT byS)]
noncomputable def G3 : Nat → Option Vc.Trans := tabG specs3 (tget tab) 5
theorem G3_ok : GOK Tryd.prog G3 := tabG_ok (GOK.cons (frame_ok writes_ok) (GOK.cons (frame_ok meet_ok) (GOK.cons (frame_ok reads_ok) (GOK.cons (frame_ok marked_ok) (GOK.cons (openAtG_ok (frame_ok cont_ok) 0) (GOK.cons (frame_ok span_ok) (GOK.cons (frame_ok by_ok) .nil))))))) tab_ok 5
def overP (l : List Op) (off : Nat) (x y : Op) (j : Nat) : Bool := wr (l.getD (off + j) default) && meetB [l.getD (off + j) default, x, y]
def overB (l : List Op) (off n : Nat) (x y : Op) : Bool := anyB n (overP l off x y)
theorem over_run (M : HL) (K : SV → List Ent → HL → Prop) (o : Bool) (e : TypeId) (l : List Op) (off n : Nat) (x y : Op) (hn : off + n ≤ l.length) (hl : l.length ≤ 1000) (hF : ∀ x ∈ l, Fit x) (hx : Fit x) (hy : Fit y) (hK : K (.v (.bool (overB l off n x y))) [.row o e ock (l.map orow)] M) :
    runF G3 pf77 [.slc 0 13 off n, .agg (osv x), .agg (osv y)] [.row o e ock (l.map orow)] M fun v hp2 M2 => ∃ m v' hp', Wk (llen [Ent.row o e ock (l.map orow)]) m [v] hp2 [v'] hp' (K v' hp' M2) := by
  unfold overB at hK
  repeat ((conv => whnf); (first | refine Cnd.yes ?_ | refine Cnd.no ?_ | refine And.intro rfl ?_ | refine aom ?_ | refine Alt.std ?_ | (show Ko_ _ _ _ _; subst hKo_) | refine ctt ?_ | refine cff ?_))
  conv => whnf
  refine ⟨InvS 25 (fun s : Nat => n - s) (fun s : Nat => s ≤ n ∧ ∀ j, j < s → overP l off x y j = false) (fun s : Nat => [(4, .ptr 1 0 0 0), (5, .ptr 2 0 0 0), (9, .slc 0 13 off n), (10, .v (.int .i64 n)), (11, .v (.int .i64 s))]) (fun s : Nat => [Ent.row o e ock (l.map orow), .cells 38 (osv x), .cells 38 (osv y)]) M, ⟨(fun s : Nat => n - s) 0, [0, 1, 2], tmk 25 0 ((fun s : Nat => [(4, .ptr 1 0 0 0), (5, .ptr 2 0 0 0), (9, .slc 0 13 off n), (10, .v (.int .i64 n)), (11, .v (.int .i64 s))]) 0), (fun s : Nat => [Ent.row o e ock (l.map orow), .cells 38 (osv x), .cells 38 (osv y)]) 0, ?_⟩, ?_⟩
  · repeat ((conv => whnf); (first | refine Cnd.yes ?_ | refine Cnd.no ?_ | refine And.intro rfl ?_ | refine aom ?_ | refine Alt.std ?_ | (show Ko_ _ _ _ _; subst hKo_)))
    conv => whnf
    exact ⟨0, ⟨Nat.zero_le _, fun j hj => by omega⟩, rfl, rfl, (tmkK_eq _ _ _ _).mpr rfl, rfl⟩
  · rintro Ko_ hKo_ cnt tm hp M1 ⟨i, hC_, rfl, rfl, htm, hhp_⟩
    replace hC_ : i ≤ n ∧ ∀ j, j < i → overP l off x y j = false := hC_
    obtain ⟨hi, hall⟩ := hC_
    replace htm : tmkK 25 0 [(4, .ptr 1 0 0 0), (5, .ptr 2 0 0 0), (9, .slc 0 13 off n), (10, .v (.int .i64 n)), (11, .v (.int .i64 i))] (fun l => tm = l) := htm
    conv at htm => whnf
    subst htm
    replace hhp_ : hp = [Ent.row o e ock (l.map orow), .cells 38 (osv x), .cells 38 (osv y)] := hhp_
    subst hhp_
    repeat ((conv => whnf); (first | refine Cnd.yes ?_ | refine Cnd.no ?_ | refine And.intro rfl ?_ | refine aom ?_ | refine Alt.std ?_ | (show Ko_ _ _ _ _; subst hKo_) | refine ctt ?_ | refine cff ?_))
    conv => whnf
    refine Cnd.mk (fun hlt => ?_) fun hge => ?_
    · skip
      have hin : i < n := by have := of_decide_eq_true hlt; omega
      have hfi := hF (l.getD (off + i) default) (by simp [List.getD, show off + i < l.length by omega])
      obtain ⟨z, hz⟩ : ∃ z, l.getD (off + i) default = z := ⟨_, rfl⟩
      have hz0 : l.getD (off + (i : Int).toNat) default = z := hz
      rw [hz] at hfi
      have c0 : toI (cellAt (List.map orow l) (off + (i : Int).toNat) 0) = Op.k z := by rw [ocell l (show off + (i : Int).toNat < l.length by omega), hz0]; rfl
      have c1 : toI (cellAt (List.map orow l) (off + (i : Int).toNat) (0 + 1)) = Op.sz z := by rw [ocell l (show off + (i : Int).toNat < l.length by omega), hz0]; rfl
      have c2 : toI (cellAt (List.map orow l) (off + (i : Int).toNat) (0 + 1 + 1)) = Op.ad z := by rw [ocell l (show off + (i : Int).toNat < l.length by omega), hz0]; rfl
      have c3 : toI (cellAt (List.map orow l) (off + (i : Int).toNat) (0 + 1 + 1 + 1)) = Op.v z := by rw [ocell l (show off + (i : Int).toNat < l.length by omega), hz0]; rfl
      have c4 : toI (cellAt (List.map orow l) (off + (i : Int).toNat) (0 + 1 + 1 + 1 + 1)) = Op.g z := by rw [ocell l (show off + (i : Int).toNat < l.length by omega), hz0]; rfl
      have c5 : toB (cellAt (List.map orow l) (off + (i : Int).toNat) (0 + 1 + 1 + 1 + 1 + 1)) = Op.pr z := by rw [ocell l (show off + (i : Int).toNat < l.length by omega), hz0]; rfl
      have c6 : toB (cellAt (List.map orow l) (off + (i : Int).toNat) (0 + 1 + 1 + 1 + 1 + 1 + 1)) = Op.aq z := by rw [ocell l (show off + (i : Int).toNat < l.length by omega), hz0]; rfl
      have c7 : toB (cellAt (List.map orow l) (off + (i : Int).toNat) (0 + 1 + 1 + 1 + 1 + 1 + 1 + 1)) = Op.rl z := by rw [ocell l (show off + (i : Int).toNat < l.length by omega), hz0]; rfl
      have c8 : toI (cellAt (List.map orow l) (off + (i : Int).toNat) (0 + 1 + 1 + 1 + 1 + 1 + 1 + 1 + 1)) = Op.pd z := by rw [ocell l (show off + (i : Int).toNat < l.length by omega), hz0]; rfl
      have c9 : toI (cellAt (List.map orow l) (off + (i : Int).toNat) (0 + 1 + 1 + 1 + 1 + 1 + 1 + 1 + 1 + 1)) = Op.sc z := by rw [ocell l (show off + (i : Int).toNat < l.length by omega), hz0]; rfl
      have c10 : cellAt (List.map orow l) (off + (i : Int).toNat) (0 + 1 + 1 + 1 + 1 + 1 + 1 + 1 + 1 + 1 + 1) = Op.ya z := by rw [ocell l (show off + (i : Int).toNat < l.length by omega), hz0]; rfl
      have c11 : cellAt (List.map orow l) (off + (i : Int).toNat) (0 + 1 + 1 + 1 + 1 + 1 + 1 + 1 + 1 + 1 + 1 + 1) = Op.yd z := by rw [ocell l (show off + (i : Int).toNat < l.length by omega), hz0]; rfl
      have c12 : cellAt (List.map orow l) (off + (i : Int).toNat) (0 + 1 + 1 + 1 + 1 + 1 + 1 + 1 + 1 + 1 + 1 + 1 + 1) = Op.yc z := by rw [ocell l (show off + (i : Int).toNat < l.length by omega), hz0]; rfl
      repeat ((conv => whnf); (first | refine Cnd.yes ?_ | refine Cnd.no ?_ | refine And.intro rfl ?_ | refine aom ?_ | refine Alt.std ?_ | (show Ko_ _ _ _ _; subst hKo_) | refine ctt ?_ | refine cff ?_))
      conv => whnf
      rw [c0, c1, c2, c3, c4, c5, c6, c7, c8, c9, c10, c11, c12]
      clear c0 c1 c2 c3 c4 c5 c6 c7 c8 c9 c10 c11 c12
      repeat ((conv => whnf); (first | refine Cnd.yes ?_ | refine Cnd.no ?_ | refine And.intro rfl ?_ | refine aom ?_ | refine Alt.std ?_ | (show Ko_ _ _ _ _; subst hKo_) | refine ctt ?_ | refine cff ?_))
      conv => whnf
      have hP : overP l off x y i = (wr z && meetB [z, x, y]) := by unfold overP; rw [hz]
      refine ⟨z, rfl, rfl, ?_⟩
      cases hw : wr z with
      | false =>
        rw [hw, Bool.false_and] at hP
        repeat ((conv => whnf); (first | refine Cnd.yes ?_ | refine Cnd.no ?_ | refine And.intro rfl ?_ | refine aom ?_ | refine Alt.std ?_ | (show Ko_ _ _ _ _; subst hKo_) | refine ctt ?_ | refine cff ?_))
        conv => whnf
        (refine ⟨(fun s : Nat => n - s) (i + 1), [0, 1, 2], tmk 25 0 ((fun s : Nat => [(4, .ptr 1 0 0 0), (5, .ptr 2 0 0 0), (9, .slc 0 13 off n), (10, .v (.int .i64 n)), (11, .v (.int .i64 s))]) (i + 1)), (fun s : Nat => [Ent.row o e ock (l.map orow), .cells 38 (osv x), .cells 38 (osv y)]) (i + 1), ?_, ?_⟩; focus (first | (simp only []; omega) | omega))
        repeat ((conv => whnf); (first | refine Cnd.yes ?_ | refine Cnd.no ?_ | refine And.intro rfl ?_ | refine aom ?_ | refine Alt.std ?_ | (show Ko_ _ _ _ _; subst hKo_)))
        conv => whnf
        exact ⟨i + 1, ⟨hin, all_next hall hP⟩, rfl, rfl, (tmkK_eq _ _ _ _).mpr rfl, rfl⟩
      | true =>
        rw [hw, Bool.true_and] at hP
        repeat ((conv => whnf); (first | refine Cnd.yes ?_ | refine Cnd.no ?_ | refine And.intro rfl ?_ | refine aom ?_ | refine Alt.std ?_ | (show Ko_ _ _ _ _; subst hKo_) | refine ctt ?_ | refine cff ?_))
        conv => whnf
        refine ⟨true, 38, [z, x, y], rfl, rfl, by simp, by simp, fun q hq => by simp at hq; rcases hq with rfl | rfl | rfl <;> assumption, ?_⟩
        rw [← hP]
        cases hb : overP l off x y i with
        | true =>
          rw [anyB_true hin hb] at hK
          repeat ((conv => whnf); (first | refine Cnd.yes ?_ | refine Cnd.no ?_ | refine And.intro rfl ?_ | refine aom ?_ | refine Alt.std ?_ | (show Ko_ _ _ _ _; subst hKo_) | refine ctt ?_ | refine cff ?_))
          conv => whnf
          refine ⟨[0], .v (.bool true), [.row o e ock (l.map orow)], ?_⟩
          repeat ((conv => whnf); (first | refine Cnd.yes ?_ | refine Cnd.no ?_ | refine And.intro rfl ?_ | refine aom ?_ | refine Alt.std ?_ | (show Ko_ _ _ _ _; subst hKo_)))
          conv => whnf
          exact hK
        | false =>
          repeat ((conv => whnf); (first | refine Cnd.yes ?_ | refine Cnd.no ?_ | refine And.intro rfl ?_ | refine aom ?_ | refine Alt.std ?_ | (show Ko_ _ _ _ _; subst hKo_) | refine ctt ?_ | refine cff ?_))
          conv => whnf
          (refine ⟨(fun s : Nat => n - s) (i + 1), [0, 1, 2], tmk 25 0 ((fun s : Nat => [(4, .ptr 1 0 0 0), (5, .ptr 2 0 0 0), (9, .slc 0 13 off n), (10, .v (.int .i64 n)), (11, .v (.int .i64 s))]) (i + 1)), (fun s : Nat => [Ent.row o e ock (l.map orow), .cells 38 (osv x), .cells 38 (osv y)]) (i + 1), ?_, ?_⟩; focus (first | (simp only []; omega) | omega))
          repeat ((conv => whnf); (first | refine Cnd.yes ?_ | refine Cnd.no ?_ | refine And.intro rfl ?_ | refine aom ?_ | refine Alt.std ?_ | (show Ko_ _ _ _ _; subst hKo_)))
          conv => whnf
          exact ⟨i + 1, ⟨hin, all_next hall hb⟩, rfl, rfl, (tmkK_eq _ _ _ _).mpr rfl, rfl⟩
    · have hin : i = n := by have := of_decide_eq_false hge; omega
      subst hin
      rw [anyB_false hall] at hK
      repeat ((conv => whnf); (first | refine Cnd.yes ?_ | refine Cnd.no ?_ | refine And.intro rfl ?_ | refine aom ?_ | refine Alt.std ?_ | (show Ko_ _ _ _ _; subst hKo_) | refine ctt ?_ | refine cff ?_))
      conv => whnf
      refine ⟨[0], .v (.bool false), [.row o e ock (l.map orow)], ?_⟩
      repeat ((conv => whnf); (first | refine Cnd.yes ?_ | refine Cnd.no ?_ | refine And.intro rfl ?_ | refine aom ?_ | refine Alt.std ?_ | (show Ko_ _ _ _ _; subst hKo_)))
      conv => whnf
      exact hK
def overS : Vc.Spec := fun args hp _ K => ∃ (o : Bool) (e : TypeId) (l : List Op) (off n : Nat) (x y : Op), args = [.slc 0 13 off n, .agg (osv x), .agg (osv y)] ∧ hp = [.row o e ock (l.map orow)] ∧ off + n ≤ l.length ∧ l.length ≤ 1000 ∧ (∀ x ∈ l, Fit x) ∧ Fit x ∧ Fit y ∧ K (.v (.bool (overB l off n x y))) [.row o e ock (l.map orow)]
theorem over_ok : SOK Tryd.prog 77 overS := by
  refine TOK.weaken (TOK.out (runF_eq G3_ok mixed at77.1 at77.2 pf77_eq)) fun args hp M K h => ?_
  obtain ⟨o, e, l, off, n, x, y, rfl, rfl, h1, h2, h3, h4, h5, h6⟩ := h
  exact over_run M K o e l off n x y h1 h2 h3 h4 h5 h6
def barP (l : List Op) (off : Nat) (x y : Op) (j : Nat) : Bool := (l.getD (off + j) default).k == 4 && byB (l.getD (off + j) default).pd x && byB (l.getD (off + j) default).sc y
def barB (l : List Op) (off n : Nat) (x y : Op) : Bool := anyB n (barP l off x y)
theorem barred_run (M : HL) (K : SV → List Ent → HL → Prop) (o : Bool) (e : TypeId) (l : List Op) (off n : Nat) (x y : Op) (hn : off + n ≤ l.length) (hl : l.length ≤ 1000) (hF : ∀ x ∈ l, Fit x) (hK : K (.v (.bool (barB l off n x y))) [.row o e ock (l.map orow)] M) :
    runF G3 pf78 [.slc 0 13 off n, .agg (osv x), .agg (osv y)] [.row o e ock (l.map orow)] M fun v hp2 M2 => ∃ m v' hp', Wk (llen [Ent.row o e ock (l.map orow)]) m [v] hp2 [v'] hp' (K v' hp' M2) := by
  unfold barB at hK
  repeat ((conv => whnf); (first | refine Cnd.yes ?_ | refine Cnd.no ?_ | refine And.intro rfl ?_ | refine aom ?_ | refine Alt.std ?_ | (show Ko_ _ _ _ _; subst hKo_) | refine ctt ?_ | refine cff ?_))
  conv => whnf
  refine ⟨InvS 31 (fun s : Nat => n - s) (fun s : Nat => s ≤ n ∧ ∀ j, j < s → barP l off x y j = false) (fun s : Nat => [(4, .ptr 1 0 0 0), (5, .ptr 2 0 0 0), (9, .slc 0 13 off n), (10, .v (.int .i64 n)), (11, .v (.int .i64 s))]) (fun s : Nat => [Ent.row o e ock (l.map orow), .cells 38 (osv x), .cells 38 (osv y)]) M, ⟨(fun s : Nat => n - s) 0, [0, 1, 2], tmk 31 0 ((fun s : Nat => [(4, .ptr 1 0 0 0), (5, .ptr 2 0 0 0), (9, .slc 0 13 off n), (10, .v (.int .i64 n)), (11, .v (.int .i64 s))]) 0), (fun s : Nat => [Ent.row o e ock (l.map orow), .cells 38 (osv x), .cells 38 (osv y)]) 0, ?_⟩, ?_⟩
  · repeat ((conv => whnf); (first | refine Cnd.yes ?_ | refine Cnd.no ?_ | refine And.intro rfl ?_ | refine aom ?_ | refine Alt.std ?_ | (show Ko_ _ _ _ _; subst hKo_)))
    conv => whnf
    exact ⟨0, ⟨Nat.zero_le _, fun j hj => by omega⟩, rfl, rfl, (tmkK_eq _ _ _ _).mpr rfl, rfl⟩
  · rintro Ko_ hKo_ cnt tm hp M1 ⟨i, hC_, rfl, rfl, htm, hhp_⟩
    replace hC_ : i ≤ n ∧ ∀ j, j < i → barP l off x y j = false := hC_
    obtain ⟨hi, hall⟩ := hC_
    replace htm : tmkK 31 0 [(4, .ptr 1 0 0 0), (5, .ptr 2 0 0 0), (9, .slc 0 13 off n), (10, .v (.int .i64 n)), (11, .v (.int .i64 i))] (fun l => tm = l) := htm
    conv at htm => whnf
    subst htm
    replace hhp_ : hp = [Ent.row o e ock (l.map orow), .cells 38 (osv x), .cells 38 (osv y)] := hhp_
    subst hhp_
    repeat ((conv => whnf); (first | refine Cnd.yes ?_ | refine Cnd.no ?_ | refine And.intro rfl ?_ | refine aom ?_ | refine Alt.std ?_ | (show Ko_ _ _ _ _; subst hKo_) | refine ctt ?_ | refine cff ?_))
    conv => whnf
    refine Cnd.mk (fun hlt => ?_) fun hge => ?_
    · skip
      have hin : i < n := by have := of_decide_eq_true hlt; omega
      have hfi := hF (l.getD (off + i) default) (by simp [List.getD, show off + i < l.length by omega])
      obtain ⟨z, hz⟩ : ∃ z, l.getD (off + i) default = z := ⟨_, rfl⟩
      have hz0 : l.getD (off + (i : Int).toNat) default = z := hz
      rw [hz] at hfi
      have c0 : toI (cellAt (List.map orow l) (off + (i : Int).toNat) 0) = Op.k z := by rw [ocell l (show off + (i : Int).toNat < l.length by omega), hz0]; rfl
      have c1 : toI (cellAt (List.map orow l) (off + (i : Int).toNat) (0 + 1)) = Op.sz z := by rw [ocell l (show off + (i : Int).toNat < l.length by omega), hz0]; rfl
      have c2 : toI (cellAt (List.map orow l) (off + (i : Int).toNat) (0 + 1 + 1)) = Op.ad z := by rw [ocell l (show off + (i : Int).toNat < l.length by omega), hz0]; rfl
      have c3 : toI (cellAt (List.map orow l) (off + (i : Int).toNat) (0 + 1 + 1 + 1)) = Op.v z := by rw [ocell l (show off + (i : Int).toNat < l.length by omega), hz0]; rfl
      have c4 : toI (cellAt (List.map orow l) (off + (i : Int).toNat) (0 + 1 + 1 + 1 + 1)) = Op.g z := by rw [ocell l (show off + (i : Int).toNat < l.length by omega), hz0]; rfl
      have c5 : toB (cellAt (List.map orow l) (off + (i : Int).toNat) (0 + 1 + 1 + 1 + 1 + 1)) = Op.pr z := by rw [ocell l (show off + (i : Int).toNat < l.length by omega), hz0]; rfl
      have c6 : toB (cellAt (List.map orow l) (off + (i : Int).toNat) (0 + 1 + 1 + 1 + 1 + 1 + 1)) = Op.aq z := by rw [ocell l (show off + (i : Int).toNat < l.length by omega), hz0]; rfl
      have c7 : toB (cellAt (List.map orow l) (off + (i : Int).toNat) (0 + 1 + 1 + 1 + 1 + 1 + 1 + 1)) = Op.rl z := by rw [ocell l (show off + (i : Int).toNat < l.length by omega), hz0]; rfl
      have c8 : toI (cellAt (List.map orow l) (off + (i : Int).toNat) (0 + 1 + 1 + 1 + 1 + 1 + 1 + 1 + 1)) = Op.pd z := by rw [ocell l (show off + (i : Int).toNat < l.length by omega), hz0]; rfl
      have c9 : toI (cellAt (List.map orow l) (off + (i : Int).toNat) (0 + 1 + 1 + 1 + 1 + 1 + 1 + 1 + 1 + 1)) = Op.sc z := by rw [ocell l (show off + (i : Int).toNat < l.length by omega), hz0]; rfl
      have c10 : cellAt (List.map orow l) (off + (i : Int).toNat) (0 + 1 + 1 + 1 + 1 + 1 + 1 + 1 + 1 + 1 + 1) = Op.ya z := by rw [ocell l (show off + (i : Int).toNat < l.length by omega), hz0]; rfl
      have c11 : cellAt (List.map orow l) (off + (i : Int).toNat) (0 + 1 + 1 + 1 + 1 + 1 + 1 + 1 + 1 + 1 + 1 + 1) = Op.yd z := by rw [ocell l (show off + (i : Int).toNat < l.length by omega), hz0]; rfl
      have c12 : cellAt (List.map orow l) (off + (i : Int).toNat) (0 + 1 + 1 + 1 + 1 + 1 + 1 + 1 + 1 + 1 + 1 + 1 + 1) = Op.yc z := by rw [ocell l (show off + (i : Int).toNat < l.length by omega), hz0]; rfl
      repeat ((conv => whnf); (first | refine Cnd.yes ?_ | refine Cnd.no ?_ | refine And.intro rfl ?_ | refine aom ?_ | refine Alt.std ?_ | (show Ko_ _ _ _ _; subst hKo_) | refine ctt ?_ | refine cff ?_))
      conv => whnf
      rw [c0, c1, c2, c3, c4, c5, c6, c7, c8, c9, c10, c11, c12]
      clear c0 c1 c2 c3 c4 c5 c6 c7 c8 c9 c10 c11 c12
      repeat ((conv => whnf); (first | refine Cnd.yes ?_ | refine Cnd.no ?_ | refine And.intro rfl ?_ | refine aom ?_ | refine Alt.std ?_ | (show Ko_ _ _ _ _; subst hKo_) | refine ctt ?_ | refine cff ?_))
      conv => whnf
      have hP : barP l off x y i = (z.k == 4 && byB z.pd x && byB z.sc y) := by unfold barP; rw [hz]
      cases hk : z.k == 4 with
      | false =>
        rw [hk, Bool.false_and, Bool.false_and] at hP
        repeat ((conv => whnf); (first | refine Cnd.yes ?_ | refine Cnd.no ?_ | refine And.intro rfl ?_ | refine aom ?_ | refine Alt.std ?_ | (show Ko_ _ _ _ _; subst hKo_) | refine ctt ?_ | refine cff ?_))
        conv => whnf
        (refine ⟨(fun s : Nat => n - s) (i + 1), [0, 1, 2], tmk 31 0 ((fun s : Nat => [(4, .ptr 1 0 0 0), (5, .ptr 2 0 0 0), (9, .slc 0 13 off n), (10, .v (.int .i64 n)), (11, .v (.int .i64 s))]) (i + 1)), (fun s : Nat => [Ent.row o e ock (l.map orow), .cells 38 (osv x), .cells 38 (osv y)]) (i + 1), ?_, ?_⟩; focus (first | (simp only []; omega) | omega))
        repeat ((conv => whnf); (first | refine Cnd.yes ?_ | refine Cnd.no ?_ | refine And.intro rfl ?_ | refine aom ?_ | refine Alt.std ?_ | (show Ko_ _ _ _ _; subst hKo_)))
        conv => whnf
        exact ⟨i + 1, ⟨hin, all_next hall hP⟩, rfl, rfl, (tmkK_eq _ _ _ _).mpr rfl, rfl⟩
      | true =>
        rw [hk, Bool.true_and] at hP
        repeat ((conv => whnf); (first | refine Cnd.yes ?_ | refine Cnd.no ?_ | refine And.intro rfl ?_ | refine aom ?_ | refine Alt.std ?_ | (show Ko_ _ _ _ _; subst hKo_) | refine ctt ?_ | refine cff ?_))
        conv => whnf
        refine ⟨z.pd, x, rfl, rfl, ?_⟩
        cases hb1 : byB z.pd x with
        | false =>
          rw [hb1, Bool.false_and] at hP
          repeat ((conv => whnf); (first | refine Cnd.yes ?_ | refine Cnd.no ?_ | refine And.intro rfl ?_ | refine aom ?_ | refine Alt.std ?_ | (show Ko_ _ _ _ _; subst hKo_) | refine ctt ?_ | refine cff ?_))
          conv => whnf
          (refine ⟨(fun s : Nat => n - s) (i + 1), [0, 1, 2], tmk 31 0 ((fun s : Nat => [(4, .ptr 1 0 0 0), (5, .ptr 2 0 0 0), (9, .slc 0 13 off n), (10, .v (.int .i64 n)), (11, .v (.int .i64 s))]) (i + 1)), (fun s : Nat => [Ent.row o e ock (l.map orow), .cells 38 (osv x), .cells 38 (osv y)]) (i + 1), ?_, ?_⟩; focus (first | (simp only []; omega) | omega))
          repeat ((conv => whnf); (first | refine Cnd.yes ?_ | refine Cnd.no ?_ | refine And.intro rfl ?_ | refine aom ?_ | refine Alt.std ?_ | (show Ko_ _ _ _ _; subst hKo_)))
          conv => whnf
          exact ⟨i + 1, ⟨hin, all_next hall hP⟩, rfl, rfl, (tmkK_eq _ _ _ _).mpr rfl, rfl⟩
        | true =>
          rw [hb1, Bool.true_and] at hP
          repeat ((conv => whnf); (first | refine Cnd.yes ?_ | refine Cnd.no ?_ | refine And.intro rfl ?_ | refine aom ?_ | refine Alt.std ?_ | (show Ko_ _ _ _ _; subst hKo_) | refine ctt ?_ | refine cff ?_))
          conv => whnf
          refine ⟨z.sc, y, rfl, rfl, ?_⟩
          rw [← hP]
          cases hb : barP l off x y i with
          | true =>
            rw [anyB_true hin hb] at hK
            repeat ((conv => whnf); (first | refine Cnd.yes ?_ | refine Cnd.no ?_ | refine And.intro rfl ?_ | refine aom ?_ | refine Alt.std ?_ | (show Ko_ _ _ _ _; subst hKo_) | refine ctt ?_ | refine cff ?_))
            conv => whnf
            refine ⟨[0], .v (.bool true), [.row o e ock (l.map orow)], ?_⟩
            repeat ((conv => whnf); (first | refine Cnd.yes ?_ | refine Cnd.no ?_ | refine And.intro rfl ?_ | refine aom ?_ | refine Alt.std ?_ | (show Ko_ _ _ _ _; subst hKo_)))
            conv => whnf
            exact hK
          | false =>
            repeat ((conv => whnf); (first | refine Cnd.yes ?_ | refine Cnd.no ?_ | refine And.intro rfl ?_ | refine aom ?_ | refine Alt.std ?_ | (show Ko_ _ _ _ _; subst hKo_) | refine ctt ?_ | refine cff ?_))
            conv => whnf
            (refine ⟨(fun s : Nat => n - s) (i + 1), [0, 1, 2], tmk 31 0 ((fun s : Nat => [(4, .ptr 1 0 0 0), (5, .ptr 2 0 0 0), (9, .slc 0 13 off n), (10, .v (.int .i64 n)), (11, .v (.int .i64 s))]) (i + 1)), (fun s : Nat => [Ent.row o e ock (l.map orow), .cells 38 (osv x), .cells 38 (osv y)]) (i + 1), ?_, ?_⟩; focus (first | (simp only []; omega) | omega))
            repeat ((conv => whnf); (first | refine Cnd.yes ?_ | refine Cnd.no ?_ | refine And.intro rfl ?_ | refine aom ?_ | refine Alt.std ?_ | (show Ko_ _ _ _ _; subst hKo_)))
            conv => whnf
            exact ⟨i + 1, ⟨hin, all_next hall hb⟩, rfl, rfl, (tmkK_eq _ _ _ _).mpr rfl, rfl⟩
    · have hin : i = n := by have := of_decide_eq_false hge; omega
      subst hin
      rw [anyB_false hall] at hK
      repeat ((conv => whnf); (first | refine Cnd.yes ?_ | refine Cnd.no ?_ | refine And.intro rfl ?_ | refine aom ?_ | refine Alt.std ?_ | (show Ko_ _ _ _ _; subst hKo_) | refine ctt ?_ | refine cff ?_))
      conv => whnf
      refine ⟨[0], .v (.bool false), [.row o e ock (l.map orow)], ?_⟩
      repeat ((conv => whnf); (first | refine Cnd.yes ?_ | refine Cnd.no ?_ | refine And.intro rfl ?_ | refine aom ?_ | refine Alt.std ?_ | (show Ko_ _ _ _ _; subst hKo_)))
      conv => whnf
      exact hK
def barredS : Vc.Spec := fun args hp _ K => ∃ (o : Bool) (e : TypeId) (l : List Op) (off n : Nat) (x y : Op), args = [.slc 0 13 off n, .agg (osv x), .agg (osv y)] ∧ hp = [.row o e ock (l.map orow)] ∧ off + n ≤ l.length ∧ l.length ≤ 1000 ∧ (∀ x ∈ l, Fit x) ∧ K (.v (.bool (barB l off n x y))) [.row o e ock (l.map orow)]
theorem barred_ok : SOK Tryd.prog 78 barredS := by
  refine TOK.weaken (TOK.out (runF_eq G3_ok mixed at78.1 at78.2 pf78_eq)) fun args hp M K h => ?_
  obtain ⟨o, e, l, off, n, x, y, rfl, rfl, h1, h2, h3, h4⟩ := h
  exact barred_run M K o e l off n x y h1 h2 h3 h4
def plP (l : List Op) (off : Nat) (a : Int) (j : Nat) : Bool := (l.getD (off + j) default).k != 4 && decide (a ∈ (l.getD (off + j) default).da)
def plB (l : List Op) (off n : Nat) (a : Int) : Bool := anyB n (plP l off a)
def Deps (M : HL) (l : List Op) : Prop := ∀ x ∈ l, OIn M x ∧ x.da.length ≤ 1000000 ∧ x.dd.length ≤ 1000000 ∧ x.dc.length ≤ 1000000
theorem Deps.mono {M M' : HL} {l : List Op} (h : Deps M l) (hM : FLe M M') : Deps M' l := fun x hx => ⟨(h x hx).1.mono hM, (h x hx).2⟩
theorem placed_run (M : HL) (K : SV → List Ent → HL → Prop) (o : Bool) (e : TypeId) (l : List Op) (off n : Nat) (p : Int) (hn : off + n ≤ l.length) (hl : l.length ≤ 1000) (hF : ∀ x ∈ l, Fit x) (hD : Deps M l) (hK : K (.v (.bool (plB l off n p))) [.row o e ock (l.map orow)] M) :
    runF G3 pf82 [.slc 0 13 off n, .v (.int .i64 p)] [.row o e ock (l.map orow)] M fun v hp2 M2 => ∃ m v' hp', Wk (llen [Ent.row o e ock (l.map orow)]) m [v] hp2 [v'] hp' (K v' hp' M2) := by
  unfold plB at hK
  repeat ((conv => whnf); (first | refine Cnd.yes ?_ | refine Cnd.no ?_ | refine And.intro rfl ?_ | refine aom ?_ | refine Alt.std ?_ | (show Ko_ _ _ _ _; subst hKo_) | refine ctt ?_ | refine cff ?_))
  conv => whnf
  refine ⟨InvS 23 (fun s : Nat => n - s) (fun s : Nat => s ≤ n ∧ ∀ j, j < s → plP l off p j = false) (fun s : Nat => [(1, .v (.int .i64 p)), (7, .slc 0 13 off n), (8, .v (.int .i64 n)), (9, .v (.int .i64 s))]) (fun s : Nat => [Ent.row o e ock (l.map orow)]) M, ⟨(fun s : Nat => n - s) 0, [0], tmk 23 0 ((fun s : Nat => [(1, .v (.int .i64 p)), (7, .slc 0 13 off n), (8, .v (.int .i64 n)), (9, .v (.int .i64 s))]) 0), (fun s : Nat => [Ent.row o e ock (l.map orow)]) 0, ?_⟩, ?_⟩
  · repeat ((conv => whnf); (first | refine Cnd.yes ?_ | refine Cnd.no ?_ | refine And.intro rfl ?_ | refine aom ?_ | refine Alt.std ?_ | (show Ko_ _ _ _ _; subst hKo_)))
    conv => whnf
    exact ⟨0, ⟨Nat.zero_le _, fun j hj => by omega⟩, rfl, rfl, (tmkK_eq _ _ _ _).mpr rfl, rfl⟩
  · rintro Ko_ hKo_ cnt tm hp M1 ⟨i, hC_, rfl, rfl, htm, hhp_⟩
    replace hC_ : i ≤ n ∧ ∀ j, j < i → plP l off p j = false := hC_
    obtain ⟨hi, hall⟩ := hC_
    replace htm : tmkK 23 0 [(1, .v (.int .i64 p)), (7, .slc 0 13 off n), (8, .v (.int .i64 n)), (9, .v (.int .i64 i))] (fun l => tm = l) := htm
    conv at htm => whnf
    subst htm
    replace hhp_ : hp = [Ent.row o e ock (l.map orow)] := hhp_
    subst hhp_
    repeat ((conv => whnf); (first | refine Cnd.yes ?_ | refine Cnd.no ?_ | refine And.intro rfl ?_ | refine aom ?_ | refine Alt.std ?_ | (show Ko_ _ _ _ _; subst hKo_) | refine ctt ?_ | refine cff ?_))
    conv => whnf
    refine Cnd.mk (fun hlt => ?_) fun hge => ?_
    · skip
      have hin : i < n := by have := of_decide_eq_true hlt; omega
      have hfi := hF (l.getD (off + i) default) (by simp [List.getD, show off + i < l.length by omega])
      obtain ⟨z, hz⟩ : ∃ z, l.getD (off + i) default = z := ⟨_, rfl⟩
      have hz0 : l.getD (off + (i : Int).toNat) default = z := hz
      rw [hz] at hfi
      have c0 : toI (cellAt (List.map orow l) (off + (i : Int).toNat) 0) = Op.k z := by rw [ocell l (show off + (i : Int).toNat < l.length by omega), hz0]; rfl
      have c1 : toI (cellAt (List.map orow l) (off + (i : Int).toNat) (0 + 1)) = Op.sz z := by rw [ocell l (show off + (i : Int).toNat < l.length by omega), hz0]; rfl
      have c2 : toI (cellAt (List.map orow l) (off + (i : Int).toNat) (0 + 1 + 1)) = Op.ad z := by rw [ocell l (show off + (i : Int).toNat < l.length by omega), hz0]; rfl
      have c3 : toI (cellAt (List.map orow l) (off + (i : Int).toNat) (0 + 1 + 1 + 1)) = Op.v z := by rw [ocell l (show off + (i : Int).toNat < l.length by omega), hz0]; rfl
      have c4 : toI (cellAt (List.map orow l) (off + (i : Int).toNat) (0 + 1 + 1 + 1 + 1)) = Op.g z := by rw [ocell l (show off + (i : Int).toNat < l.length by omega), hz0]; rfl
      have c5 : toB (cellAt (List.map orow l) (off + (i : Int).toNat) (0 + 1 + 1 + 1 + 1 + 1)) = Op.pr z := by rw [ocell l (show off + (i : Int).toNat < l.length by omega), hz0]; rfl
      have c6 : toB (cellAt (List.map orow l) (off + (i : Int).toNat) (0 + 1 + 1 + 1 + 1 + 1 + 1)) = Op.aq z := by rw [ocell l (show off + (i : Int).toNat < l.length by omega), hz0]; rfl
      have c7 : toB (cellAt (List.map orow l) (off + (i : Int).toNat) (0 + 1 + 1 + 1 + 1 + 1 + 1 + 1)) = Op.rl z := by rw [ocell l (show off + (i : Int).toNat < l.length by omega), hz0]; rfl
      have c8 : toI (cellAt (List.map orow l) (off + (i : Int).toNat) (0 + 1 + 1 + 1 + 1 + 1 + 1 + 1 + 1)) = Op.pd z := by rw [ocell l (show off + (i : Int).toNat < l.length by omega), hz0]; rfl
      have c9 : toI (cellAt (List.map orow l) (off + (i : Int).toNat) (0 + 1 + 1 + 1 + 1 + 1 + 1 + 1 + 1 + 1)) = Op.sc z := by rw [ocell l (show off + (i : Int).toNat < l.length by omega), hz0]; rfl
      have c10 : cellAt (List.map orow l) (off + (i : Int).toNat) (0 + 1 + 1 + 1 + 1 + 1 + 1 + 1 + 1 + 1 + 1) = Op.ya z := by rw [ocell l (show off + (i : Int).toNat < l.length by omega), hz0]; rfl
      have c11 : cellAt (List.map orow l) (off + (i : Int).toNat) (0 + 1 + 1 + 1 + 1 + 1 + 1 + 1 + 1 + 1 + 1 + 1) = Op.yd z := by rw [ocell l (show off + (i : Int).toNat < l.length by omega), hz0]; rfl
      have c12 : cellAt (List.map orow l) (off + (i : Int).toNat) (0 + 1 + 1 + 1 + 1 + 1 + 1 + 1 + 1 + 1 + 1 + 1 + 1) = Op.yc z := by rw [ocell l (show off + (i : Int).toNat < l.length by omega), hz0]; rfl
      repeat ((conv => whnf); (first | refine Cnd.yes ?_ | refine Cnd.no ?_ | refine And.intro rfl ?_ | refine aom ?_ | refine Alt.std ?_ | (show Ko_ _ _ _ _; subst hKo_) | refine ctt ?_ | refine cff ?_))
      conv => whnf
      rw [c0, c1, c2, c3, c4, c5, c6, c7, c8, c9, c10, c11, c12]
      clear c0 c1 c2 c3 c4 c5 c6 c7 c8 c9 c10 c11 c12
      repeat ((conv => whnf); (first | refine Cnd.yes ?_ | refine Cnd.no ?_ | refine And.intro rfl ?_ | refine aom ?_ | refine Alt.std ?_ | (show Ko_ _ _ _ _; subst hKo_) | refine ctt ?_ | refine cff ?_))
      conv => whnf
      have hP : plP l off p i = (z.k != 4 && decide (p ∈ z.da)) := by unfold plP; rw [hz]
      have hDi := hD (l.getD (off + i) default) (by simp [List.getD, show off + i < l.length by omega])
      rw [hz] at hDi
      cases hk : z.k != 4 with
      | false =>
        rw [hk, Bool.false_and] at hP
        repeat ((conv => whnf); (first | refine Cnd.yes ?_ | refine Cnd.no ?_ | refine And.intro rfl ?_ | refine aom ?_ | refine Alt.std ?_ | (show Ko_ _ _ _ _; subst hKo_) | refine ctt ?_ | refine cff ?_))
        conv => whnf
        (refine ⟨(fun s : Nat => n - s) (i + 1), [0], tmk 23 0 ((fun s : Nat => [(1, .v (.int .i64 p)), (7, .slc 0 13 off n), (8, .v (.int .i64 n)), (9, .v (.int .i64 s))]) (i + 1)), (fun s : Nat => [Ent.row o e ock (l.map orow)]) (i + 1), ?_, ?_⟩; focus (first | (simp only []; omega) | omega))
        repeat ((conv => whnf); (first | refine Cnd.yes ?_ | refine Cnd.no ?_ | refine And.intro rfl ?_ | refine aom ?_ | refine Alt.std ?_ | (show Ko_ _ _ _ _; subst hKo_)))
        conv => whnf
        exact ⟨i + 1, ⟨hin, all_next hall hP⟩, rfl, rfl, (tmkK_eq _ _ _ _).mpr rfl, rfl⟩
      | true =>
        rw [hk, Bool.true_and] at hP
        obtain ⟨ea, hRa⟩ := hDi.1.a
        repeat ((conv => whnf); (first | refine Cnd.yes ?_ | refine Cnd.no ?_ | refine And.intro rfl ?_ | refine aom ?_ | refine Alt.std ?_ | (show Ko_ _ _ _ _; subst hKo_) | refine ctt ?_ | refine cff ?_))
        conv => whnf
        refine ⟨z.ya, ea, _, _, rfl, hRa, ?_⟩
        repeat ((conv => whnf); (first | refine Cnd.yes ?_ | refine Cnd.no ?_ | refine And.intro rfl ?_ | refine aom ?_ | refine Alt.std ?_ | (show Ko_ _ _ _ _; subst hKo_) | refine ctt ?_ | refine cff ?_))
        conv => whnf
        refine ⟨false, ea, z.da, p, by simp, rfl, hDi.2.1, ?_⟩
        rw [← hP]
        cases hb : plP l off p i with
        | true =>
          rw [anyB_true hin hb] at hK
          repeat ((conv => whnf); (first | refine Cnd.yes ?_ | refine Cnd.no ?_ | refine And.intro rfl ?_ | refine aom ?_ | refine Alt.std ?_ | (show Ko_ _ _ _ _; subst hKo_) | refine ctt ?_ | refine cff ?_))
          conv => whnf
          refine ⟨[0], .v (.bool true), [.row o e ock (l.map orow)], ?_⟩
          repeat ((conv => whnf); (first | refine Cnd.yes ?_ | refine Cnd.no ?_ | refine And.intro rfl ?_ | refine aom ?_ | refine Alt.std ?_ | (show Ko_ _ _ _ _; subst hKo_)))
          conv => whnf
          exact hK
        | false =>
          repeat ((conv => whnf); (first | refine Cnd.yes ?_ | refine Cnd.no ?_ | refine And.intro rfl ?_ | refine aom ?_ | refine Alt.std ?_ | (show Ko_ _ _ _ _; subst hKo_) | refine ctt ?_ | refine cff ?_))
          conv => whnf
          (refine ⟨(fun s : Nat => n - s) (i + 1), [0], tmk 23 0 ((fun s : Nat => [(1, .v (.int .i64 p)), (7, .slc 0 13 off n), (8, .v (.int .i64 n)), (9, .v (.int .i64 s))]) (i + 1)), (fun s : Nat => [Ent.row o e ock (l.map orow)]) (i + 1), ?_, ?_⟩; focus (first | (simp only []; omega) | omega))
          repeat ((conv => whnf); (first | refine Cnd.yes ?_ | refine Cnd.no ?_ | refine And.intro rfl ?_ | refine aom ?_ | refine Alt.std ?_ | (show Ko_ _ _ _ _; subst hKo_)))
          conv => whnf
          exact ⟨i + 1, ⟨hin, all_next hall hb⟩, rfl, rfl, (tmkK_eq _ _ _ _).mpr rfl, rfl⟩
    · have hin : i = n := by have := of_decide_eq_false hge; omega
      subst hin
      rw [anyB_false hall] at hK
      repeat ((conv => whnf); (first | refine Cnd.yes ?_ | refine Cnd.no ?_ | refine And.intro rfl ?_ | refine aom ?_ | refine Alt.std ?_ | (show Ko_ _ _ _ _; subst hKo_) | refine ctt ?_ | refine cff ?_))
      conv => whnf
      refine ⟨[0], .v (.bool false), [.row o e ock (l.map orow)], ?_⟩
      repeat ((conv => whnf); (first | refine Cnd.yes ?_ | refine Cnd.no ?_ | refine And.intro rfl ?_ | refine aom ?_ | refine Alt.std ?_ | (show Ko_ _ _ _ _; subst hKo_)))
      conv => whnf
      exact hK
def placedS : Vc.Spec := fun args hp M K => ∃ (o : Bool) (e : TypeId) (l : List Op) (off n : Nat) (p : Int), args = [.slc 0 13 off n, .v (.int .i64 p)] ∧ hp = [.row o e ock (l.map orow)] ∧ off + n ≤ l.length ∧ l.length ≤ 1000 ∧ (∀ x ∈ l, Fit x) ∧ Deps M l ∧ K (.v (.bool (plB l off n p))) [.row o e ock (l.map orow)]
theorem placed_ok : SOK Tryd.prog 82 placedS := by
  refine TOK.weaken (TOK.out (runF_eq G3_ok mixed at82.1 at82.2 pf82_eq)) fun args hp M K h => ?_
  obtain ⟨o, e, l, off, n, p, rfl, rfl, h1, h2, h3, h4, h5⟩ := h
  exact placed_run M K o e l off n p h1 h2 h3 h4 h5
end Go.Proofs.YtkfkoldaeplckaaDoor
