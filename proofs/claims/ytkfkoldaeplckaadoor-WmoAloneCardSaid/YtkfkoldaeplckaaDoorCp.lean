/-
  The checker's source, walked; its contract.
-/
import Derived.Test.YtkfkoldaeplckaaDoorCm
import Derived.Test.YtkfkoldaeplckaaDoorCa
import Derived.Test.YtkfkoldaeplckaaDoorVcu
import Derived.WalkKit
import Derived.LaidEql
import Derived.LaidEqlPtr
set_option linter.unusedSimpArgs false
set_option linter.unusedVariables false

namespace Go.Proofs.YtkfkoldaeplckaaDoor
open Go Go.Vc
set_option maxRecDepth 100000
set_option linter.unusedSimpArgs false
set_option linter.unusedVariables false
set_option maxHeartbeats 4000000
/-- Of each byte the places of what writes it. -/
def WrAt (N : HL) (r : Nat) (g : Int × Int → Option Value) (W : Int → List Int) : Prop :=
  MapIn N r (.one .u32) g ∧ (∀ b, (g (b, 0) = none ∧ W b = []) ∨ ∃ y, g (b, 0) = some y ∧ OwnIn N 3 [.int .i64] y ((W b).map irow)) ∧
    ∀ b b' y z k, b ≠ b' → g (b, 0) = some y → g (b', 0) = some z → blkOf y = some k → blkOf z ≠ some k
def WrIn (N : HL) (r : Nat) (W : Int → List Int) : Prop := ∃ g, WrAt N r g W
theorem WrIn.get {N : HL} {r : Nat} {W : Int → List Int} (h : WrIn N r W) (b : Int) : ∃ g y, MapIn N r (.one .u32) g ∧ (g (b, 0)).getD nilV = y ∧ OwnIn N 3 [.int .i64] y ((W b).map irow) := by
  obtain ⟨g, h1, h2, h3⟩ := h
  rcases h2 b with ⟨h4, h5⟩ | ⟨y, h4, h5⟩
  · exact ⟨g, nilV, h1, by rw [h4]; rfl, by rw [h5]; exact ⟨by decide, .inl ⟨rfl, none, rfl⟩⟩⟩
  · exact ⟨g, y, h1, by rw [h4]; rfl, h5⟩
/-- Is it ahead, in the order or in its hart? -/
def srcC (O : List Rf) (p : Nat) (r : Rf) (w : Int) : Bool := decide (w < p) || ((O.getD w.toNat (0, 0)).1 == r.1 && decide ((O.getD w.toNat (0, 0)).2 < r.2))
def srcF (O : List Rf) (p : Nat) (r : Rf) (ws : List Int) : Int := ws.foldl (fun f w => if srcC O p r w then (if w > f then w else f) else f) (-1)
theorem srcF_next (O : List Rf) (p : Nat) (r : Rf) (ws : List Int) {i : Nat} (hi : i < ws.length) : srcF O p r (ws.take (i + 1)) = if srcC O p r (ws.getD i 0) then (if ws.getD i 0 > srcF O p r (ws.take i) then ws.getD i 0 else srcF O p r (ws.take i)) else srcF O p r (ws.take i) := by
  unfold srcF
  rw [← List.take_append_getElem hi, List.foldl_append]
  simp [List.getD, hi]
theorem source_runT (M : HL) (K : SV → List Ent → HL → Prop) (eh eo eb : TypeId) (H : Hs) (O : List Rf) (P Q : List Value) (r1 r2 : Nat) (N1 N2 : HL) (bl : List Int) (W : Int → List Int) (p : Nat) (b : Int) (hp : p < O.length) (hO : O.length ≤ 1000000)
    (hW : WrIn N1 r1 W) (hWr : ∀ w ∈ W b, 0 ≤ w ∧ w < O.length) (hWl : (W b).length ≤ 1000000)
    (hK : K (.v (.int .i64 (srcF O p (O.getD p (0, 0)) (W b)))) (chk true eh eo eb H O P Q r1 r2 N1 N2 bl) M) :
    runF G0 pf60 [.ptr 0 0 0 0, .v (.int .i64 p), .v (.int .u32 b)] (chk true eh eo eb H O P Q r1 r2 N1 N2 bl) M fun v hp2 M2 => ∃ m v' hp', Wk (llen (chk true eh eo eb H O P Q r1 r2 N1 N2 bl)) m [v] hp2 [v'] hp' (K v' hp' M2) := by
  have e0 : toI (cellAt (O.map rrow) (0 + (p : Int).toNat) 0) = (O.getD p (0, 0)).1 := by rw [Nat.zero_add, Int.toNat_natCast]; exact rcell0 O hp
  have e1 : toI (cellAt (O.map rrow) (0 + (p : Int).toNat) (0 + 1)) = (O.getD p (0, 0)).2 := by rw [Nat.zero_add, Int.toNat_natCast]; exact rcell1 O hp
  obtain ⟨r, hr⟩ : ∃ r, O.getD p (0, 0) = r := ⟨_, rfl⟩
  rw [hr] at hK e0 e1
  obtain ⟨g, y, hM, hg, hy⟩ := hW.get b
  have hyR := hy.rows
  have hyl := hyR.len
  rw [List.length_map] at hyl
  obtain ⟨ws, hws⟩ : ∃ ws, W b = ws := ⟨_, rfl⟩
  rw [hws] at hK hWr hWl hyR hyl
  repeat ((conv => whnf); (first | refine Cnd.yes ?_ | refine Cnd.no ?_ | refine And.intro rfl ?_ | refine aom ?_ | refine Alt.std ?_ | (show Ko_ _ _ _ _; subst hKo_) | refine ctt ?_ | refine cff ?_))
  conv => whnf
  rw [e0, e1]
  repeat ((conv => whnf); (first | refine Cnd.yes ?_ | refine Cnd.no ?_ | refine And.intro rfl ?_ | refine aom ?_ | refine Alt.std ?_ | (show Ko_ _ _ _ _; subst hKo_) | refine ctt ?_ | refine cff ?_))
  conv => whnf
  refine ⟨true, N1, g, rfl, hM, y, hg, hyR.is, ?_⟩
  repeat ((conv => whnf); (first | refine Cnd.yes ?_ | refine Cnd.no ?_ | refine And.intro rfl ?_ | refine aom ?_ | refine Alt.std ?_ | (show Ko_ _ _ _ _; subst hKo_) | refine ctt ?_ | refine cff ?_))
  conv => whnf
  rw [hyl]
  refine ⟨InvS 63 (fun s : Nat => ws.length - s) (fun s : Nat => s ≤ ws.length) (fun s : Nat => [(0, .ptr 0 0 0 0), (1, .v (.int .i64 p)), (2, .v (.int .u32 b)), (7, .ptr 9 0 0 0), (8, .v (.int .i64 (srcF O p r (ws.take s)))), (23, .rsl y), (24, .v (.int .i64 ws.length)), (25, .v (.int .i64 s))]) (fun s : Nat => chk true eh eo eb H O P Q r1 r2 N1 N2 bl ++ [Ent.cells 41 [.v (.int .i64 r.1), .v (.int .i64 r.2)]]) M, ⟨(fun s : Nat => ws.length - s) 0, [0, 1, 2, 3, 4, 5, 6, 7, 8, 9], tmk 63 0 ((fun s : Nat => [(0, .ptr 0 0 0 0), (1, .v (.int .i64 p)), (2, .v (.int .u32 b)), (7, .ptr 9 0 0 0), (8, .v (.int .i64 (srcF O p r (ws.take s)))), (23, .rsl y), (24, .v (.int .i64 ws.length)), (25, .v (.int .i64 s))]) 0), (fun s : Nat => chk true eh eo eb H O P Q r1 r2 N1 N2 bl ++ [Ent.cells 41 [.v (.int .i64 r.1), .v (.int .i64 r.2)]]) 0, ?_⟩, ?_⟩
  · repeat ((conv => whnf); (first | refine Cnd.yes ?_ | refine Cnd.no ?_ | refine And.intro rfl ?_ | refine aom ?_ | refine Alt.std ?_ | (show Ko_ _ _ _ _; subst hKo_)))
    conv => whnf
    exact ⟨0, Nat.zero_le _, rfl, rfl, (tmkK_eq _ _ _ _).mpr rfl, rfl⟩
  · rintro Ko_ hKo_ cnt tm hp M1 ⟨i, hC_, rfl, rfl, htm, hhp_⟩
    replace hC_ : i ≤ ws.length := hC_
    have hi := hC_
    replace htm : tmkK 63 0 [(0, .ptr 0 0 0 0), (1, .v (.int .i64 p)), (2, .v (.int .u32 b)), (7, .ptr 9 0 0 0), (8, .v (.int .i64 (srcF O p r (ws.take i)))), (23, .rsl y), (24, .v (.int .i64 ws.length)), (25, .v (.int .i64 i))] (fun l => tm = l) := htm
    conv at htm => whnf
    subst htm
    replace hhp_ : hp = chk true eh eo eb H O P Q r1 r2 N1 N2 bl ++ [Ent.cells 41 [.v (.int .i64 r.1), .v (.int .i64 r.2)]] := hhp_
    subst hhp_
    repeat ((conv => whnf); (first | refine Cnd.yes ?_ | refine Cnd.no ?_ | refine And.intro rfl ?_ | refine aom ?_ | refine Alt.std ?_ | (show Ko_ _ _ _ _; subst hKo_) | refine ctt ?_ | refine cff ?_))
    conv => whnf
    refine Cnd.mk (fun hlt => ?_) fun hge => ?_
    · have hin : i < ws.length := by have := of_decide_eq_true hlt; omega
      have ew : toI (cellAt (ws.map irow) (i : Int).toNat 0) = ws.getD i 0 := by have := toI_i hin; rwa [Nat.zero_add] at this
      obtain ⟨hw0, hw1⟩ := hWr (ws.getD i 0) (by simp [List.getD, hin])
      have hnx := srcF_next O p r ws hin
      obtain ⟨w, hw⟩ : ∃ w, ws.getD i 0 = w := ⟨_, rfl⟩
      rw [hw] at hw0 hw1 hnx ew
      have hwt : w.toNat < O.length := by omega
      have f0 : toI (cellAt (O.map rrow) (0 + w.toNat) (0 + 0)) = (O.getD w.toNat (0, 0)).1 := by rw [Nat.zero_add]; exact rcell0 O hwt
      have f1 : toI (cellAt (O.map rrow) (0 + w.toNat) (0 + 1)) = (O.getD w.toNat (0, 0)).2 := by rw [Nat.zero_add]; exact rcell1 O hwt
      repeat ((conv => whnf); (first | refine Cnd.yes ?_ | refine Cnd.no ?_ | refine And.intro rfl ?_ | refine aom ?_ | refine Alt.std ?_ | (show Ko_ _ _ _ _; subst hKo_) | refine ctt ?_ | refine cff ?_))
      conv => whnf
      refine ⟨3, [.int .i64], ws.map irow, .inl hyR, ?_⟩
      repeat ((conv => whnf); (first | refine Cnd.yes ?_ | refine Cnd.no ?_ | refine And.intro rfl ?_ | refine aom ?_ | refine Alt.std ?_ | (show Ko_ _ _ _ _; subst hKo_) | refine ctt ?_ | refine cff ?_))
      conv => whnf
      rw [ew]
      unfold srcC at hnx
      by_cases h1 : w < p
      · rw [decide_eq_true h1, Bool.true_or, if_pos rfl] at hnx
        repeat ((conv => whnf); (first | refine Cnd.yes ?_ | refine Cnd.no ?_ | refine And.intro rfl ?_ | refine aom ?_ | refine Alt.std ?_ | (show Ko_ _ _ _ _; subst hKo_) | refine ctt ?_ | refine cff ?_))
        conv => whnf
        (refine ⟨(fun s : Nat => ws.length - s) (i + 1), [0, 1, 2, 3, 4, 5, 6, 7, 8, 9], tmk 63 0 ((fun s : Nat => [(0, .ptr 0 0 0 0), (1, .v (.int .i64 p)), (2, .v (.int .u32 b)), (7, .ptr 9 0 0 0), (8, .v (.int .i64 (srcF O p r (ws.take s)))), (23, .rsl y), (24, .v (.int .i64 ws.length)), (25, .v (.int .i64 s))]) (i + 1)), (fun s : Nat => chk true eh eo eb H O P Q r1 r2 N1 N2 bl ++ [Ent.cells 41 [.v (.int .i64 r.1), .v (.int .i64 r.2)]]) (i + 1), ?_, ?_⟩; focus (first | (simp only []; omega) | omega))
        repeat ((conv => whnf); (first | refine Cnd.yes ?_ | refine Cnd.no ?_ | refine And.intro rfl ?_ | refine aom ?_ | refine Alt.std ?_ | (show Ko_ _ _ _ _; subst hKo_)))
        conv => whnf
        exact ⟨i + 1, hin, rfl, rfl, (tmkK_eq _ _ _ _).mpr rfl, rfl⟩
      · rw [decide_eq_false h1, Bool.false_or] at hnx
        by_cases h2 : (O.getD w.toNat (0, 0)).1 = r.1
        · rw [beq_iff_eq.2 h2, Bool.true_and] at hnx
          by_cases h3 : (O.getD w.toNat (0, 0)).2 < r.2
          · rw [decide_eq_true h3, if_pos rfl] at hnx
            repeat ((conv => whnf); (first | refine Cnd.yes ?_ | refine Cnd.no ?_ | refine And.intro rfl ?_ | refine aom ?_ | refine Alt.std ?_ | (show Ko_ _ _ _ _; subst hKo_) | refine ctt ?_ | refine cff ?_))
            conv => whnf
            rw [f0]
            repeat ((conv => whnf); (first | refine Cnd.yes ?_ | refine Cnd.no ?_ | refine And.intro rfl ?_ | refine aom ?_ | refine Alt.std ?_ | (show Ko_ _ _ _ _; subst hKo_) | refine ctt ?_ | refine cff ?_))
            conv => whnf
            rw [f1]
            repeat ((conv => whnf); (first | refine Cnd.yes ?_ | refine Cnd.no ?_ | refine And.intro rfl ?_ | refine aom ?_ | refine Alt.std ?_ | (show Ko_ _ _ _ _; subst hKo_) | refine ctt ?_ | refine cff ?_))
            conv => whnf
            (refine ⟨(fun s : Nat => ws.length - s) (i + 1), [0, 1, 2, 3, 4, 5, 6, 7, 8, 9], tmk 63 0 ((fun s : Nat => [(0, .ptr 0 0 0 0), (1, .v (.int .i64 p)), (2, .v (.int .u32 b)), (7, .ptr 9 0 0 0), (8, .v (.int .i64 (srcF O p r (ws.take s)))), (23, .rsl y), (24, .v (.int .i64 ws.length)), (25, .v (.int .i64 s))]) (i + 1)), (fun s : Nat => chk true eh eo eb H O P Q r1 r2 N1 N2 bl ++ [Ent.cells 41 [.v (.int .i64 r.1), .v (.int .i64 r.2)]]) (i + 1), ?_, ?_⟩; focus (first | (simp only []; omega) | omega))
            repeat ((conv => whnf); (first | refine Cnd.yes ?_ | refine Cnd.no ?_ | refine And.intro rfl ?_ | refine aom ?_ | refine Alt.std ?_ | (show Ko_ _ _ _ _; subst hKo_)))
            conv => whnf
            exact ⟨i + 1, hin, rfl, rfl, (tmkK_eq _ _ _ _).mpr rfl, rfl⟩
          · rw [decide_eq_false h3, if_neg (by simp)] at hnx
            repeat ((conv => whnf); (first | refine Cnd.yes ?_ | refine Cnd.no ?_ | refine And.intro rfl ?_ | refine aom ?_ | refine Alt.std ?_ | (show Ko_ _ _ _ _; subst hKo_) | refine ctt ?_ | refine cff ?_))
            conv => whnf
            rw [f0]
            repeat ((conv => whnf); (first | refine Cnd.yes ?_ | refine Cnd.no ?_ | refine And.intro rfl ?_ | refine aom ?_ | refine Alt.std ?_ | (show Ko_ _ _ _ _; subst hKo_) | refine ctt ?_ | refine cff ?_))
            conv => whnf
            rw [f1]
            repeat ((conv => whnf); (first | refine Cnd.yes ?_ | refine Cnd.no ?_ | refine And.intro rfl ?_ | refine aom ?_ | refine Alt.std ?_ | (show Ko_ _ _ _ _; subst hKo_) | refine ctt ?_ | refine cff ?_))
            conv => whnf
            (refine ⟨(fun s : Nat => ws.length - s) (i + 1), [0, 1, 2, 3, 4, 5, 6, 7, 8, 9], tmk 63 0 ((fun s : Nat => [(0, .ptr 0 0 0 0), (1, .v (.int .i64 p)), (2, .v (.int .u32 b)), (7, .ptr 9 0 0 0), (8, .v (.int .i64 (srcF O p r (ws.take s)))), (23, .rsl y), (24, .v (.int .i64 ws.length)), (25, .v (.int .i64 s))]) (i + 1)), (fun s : Nat => chk true eh eo eb H O P Q r1 r2 N1 N2 bl ++ [Ent.cells 41 [.v (.int .i64 r.1), .v (.int .i64 r.2)]]) (i + 1), ?_, ?_⟩; focus (first | (simp only []; omega) | omega))
            repeat ((conv => whnf); (first | refine Cnd.yes ?_ | refine Cnd.no ?_ | refine And.intro rfl ?_ | refine aom ?_ | refine Alt.std ?_ | (show Ko_ _ _ _ _; subst hKo_)))
            conv => whnf
            exact ⟨i + 1, hin, rfl, rfl, (tmkK_eq _ _ _ _).mpr rfl, rfl⟩
        · rw [beq_eq_false_iff_ne.2 h2, Bool.false_and, if_neg (by simp)] at hnx
          repeat ((conv => whnf); (first | refine Cnd.yes ?_ | refine Cnd.no ?_ | refine And.intro rfl ?_ | refine aom ?_ | refine Alt.std ?_ | (show Ko_ _ _ _ _; subst hKo_) | refine ctt ?_ | refine cff ?_))
          conv => whnf
          rw [f0]
          repeat ((conv => whnf); (first | refine Cnd.yes ?_ | refine Cnd.no ?_ | refine And.intro rfl ?_ | refine aom ?_ | refine Alt.std ?_ | (show Ko_ _ _ _ _; subst hKo_) | refine ctt ?_ | refine cff ?_))
          conv => whnf
          (refine ⟨(fun s : Nat => ws.length - s) (i + 1), [0, 1, 2, 3, 4, 5, 6, 7, 8, 9], tmk 63 0 ((fun s : Nat => [(0, .ptr 0 0 0 0), (1, .v (.int .i64 p)), (2, .v (.int .u32 b)), (7, .ptr 9 0 0 0), (8, .v (.int .i64 (srcF O p r (ws.take s)))), (23, .rsl y), (24, .v (.int .i64 ws.length)), (25, .v (.int .i64 s))]) (i + 1)), (fun s : Nat => chk true eh eo eb H O P Q r1 r2 N1 N2 bl ++ [Ent.cells 41 [.v (.int .i64 r.1), .v (.int .i64 r.2)]]) (i + 1), ?_, ?_⟩; focus (first | (simp only []; omega) | omega))
          repeat ((conv => whnf); (first | refine Cnd.yes ?_ | refine Cnd.no ?_ | refine And.intro rfl ?_ | refine aom ?_ | refine Alt.std ?_ | (show Ko_ _ _ _ _; subst hKo_)))
          conv => whnf
          exact ⟨i + 1, hin, rfl, rfl, (tmkK_eq _ _ _ _).mpr rfl, rfl⟩
    · obtain rfl : i = ws.length := by have := of_decide_eq_false hge; omega
      rw [List.take_length]
      repeat ((conv => whnf); (first | refine Cnd.yes ?_ | refine Cnd.no ?_ | refine And.intro rfl ?_ | refine aom ?_ | refine Alt.std ?_ | (show Ko_ _ _ _ _; subst hKo_) | refine ctt ?_ | refine cff ?_))
      conv => whnf
      refine ⟨[0, 1, 2, 3, 4, 5, 6, 7, 8], .v (.int .i64 (srcF O p r ws)), chk true eh eo eb H O P Q r1 r2 N1 N2 bl, ?_⟩
      repeat ((conv => whnf); (first | refine Cnd.yes ?_ | refine Cnd.no ?_ | refine And.intro rfl ?_ | refine aom ?_ | refine Alt.std ?_ | (show Ko_ _ _ _ _; subst hKo_)))
      conv => whnf
      exact hK
theorem source_runF (M : HL) (K : SV → List Ent → HL → Prop) (eh eo eb : TypeId) (H : Hs) (O : List Rf) (P Q : List Value) (r1 r2 : Nat) (N1 N2 : HL) (bl : List Int) (W : Int → List Int) (p : Nat) (b : Int) (hp : p < O.length) (hO : O.length ≤ 1000000)
    (hW : WrIn N1 r1 W) (hWr : ∀ w ∈ W b, 0 ≤ w ∧ w < O.length) (hWl : (W b).length ≤ 1000000)
    (hK : K (.v (.int .i64 (srcF O p (O.getD p (0, 0)) (W b)))) (chk false eh eo eb H O P Q r1 r2 N1 N2 bl) M) :
    runF G0 pf60 [.ptr 0 0 0 0, .v (.int .i64 p), .v (.int .u32 b)] (chk false eh eo eb H O P Q r1 r2 N1 N2 bl) M fun v hp2 M2 => ∃ m v' hp', Wk (llen (chk false eh eo eb H O P Q r1 r2 N1 N2 bl)) m [v] hp2 [v'] hp' (K v' hp' M2) := by
  have e0 : toI (cellAt (O.map rrow) (0 + (p : Int).toNat) 0) = (O.getD p (0, 0)).1 := by rw [Nat.zero_add, Int.toNat_natCast]; exact rcell0 O hp
  have e1 : toI (cellAt (O.map rrow) (0 + (p : Int).toNat) (0 + 1)) = (O.getD p (0, 0)).2 := by rw [Nat.zero_add, Int.toNat_natCast]; exact rcell1 O hp
  obtain ⟨r, hr⟩ : ∃ r, O.getD p (0, 0) = r := ⟨_, rfl⟩
  rw [hr] at hK e0 e1
  obtain ⟨g, y, hM, hg, hy⟩ := hW.get b
  have hyR := hy.rows
  have hyl := hyR.len
  rw [List.length_map] at hyl
  obtain ⟨ws, hws⟩ : ∃ ws, W b = ws := ⟨_, rfl⟩
  rw [hws] at hK hWr hWl hyR hyl
  repeat ((conv => whnf); (first | refine Cnd.yes ?_ | refine Cnd.no ?_ | refine And.intro rfl ?_ | refine aom ?_ | refine Alt.std ?_ | (show Ko_ _ _ _ _; subst hKo_) | refine ctt ?_ | refine cff ?_))
  conv => whnf
  rw [e0, e1]
  repeat ((conv => whnf); (first | refine Cnd.yes ?_ | refine Cnd.no ?_ | refine And.intro rfl ?_ | refine aom ?_ | refine Alt.std ?_ | (show Ko_ _ _ _ _; subst hKo_) | refine ctt ?_ | refine cff ?_))
  conv => whnf
  refine ⟨false, N1, g, rfl, hM, y, hg, hyR.is, ?_⟩
  repeat ((conv => whnf); (first | refine Cnd.yes ?_ | refine Cnd.no ?_ | refine And.intro rfl ?_ | refine aom ?_ | refine Alt.std ?_ | (show Ko_ _ _ _ _; subst hKo_) | refine ctt ?_ | refine cff ?_))
  conv => whnf
  rw [hyl]
  refine ⟨InvS 63 (fun s : Nat => ws.length - s) (fun s : Nat => s ≤ ws.length) (fun s : Nat => [(0, .ptr 0 0 0 0), (1, .v (.int .i64 p)), (2, .v (.int .u32 b)), (7, .ptr 9 0 0 0), (8, .v (.int .i64 (srcF O p r (ws.take s)))), (23, .rsl y), (24, .v (.int .i64 ws.length)), (25, .v (.int .i64 s))]) (fun s : Nat => chk false eh eo eb H O P Q r1 r2 N1 N2 bl ++ [Ent.cells 41 [.v (.int .i64 r.1), .v (.int .i64 r.2)]]) M, ⟨(fun s : Nat => ws.length - s) 0, [0, 1, 2, 3, 4, 5, 6, 7, 8, 9], tmk 63 0 ((fun s : Nat => [(0, .ptr 0 0 0 0), (1, .v (.int .i64 p)), (2, .v (.int .u32 b)), (7, .ptr 9 0 0 0), (8, .v (.int .i64 (srcF O p r (ws.take s)))), (23, .rsl y), (24, .v (.int .i64 ws.length)), (25, .v (.int .i64 s))]) 0), (fun s : Nat => chk false eh eo eb H O P Q r1 r2 N1 N2 bl ++ [Ent.cells 41 [.v (.int .i64 r.1), .v (.int .i64 r.2)]]) 0, ?_⟩, ?_⟩
  · repeat ((conv => whnf); (first | refine Cnd.yes ?_ | refine Cnd.no ?_ | refine And.intro rfl ?_ | refine aom ?_ | refine Alt.std ?_ | (show Ko_ _ _ _ _; subst hKo_)))
    conv => whnf
    exact ⟨0, Nat.zero_le _, rfl, rfl, (tmkK_eq _ _ _ _).mpr rfl, rfl⟩
  · rintro Ko_ hKo_ cnt tm hp M1 ⟨i, hC_, rfl, rfl, htm, hhp_⟩
    replace hC_ : i ≤ ws.length := hC_
    have hi := hC_
    replace htm : tmkK 63 0 [(0, .ptr 0 0 0 0), (1, .v (.int .i64 p)), (2, .v (.int .u32 b)), (7, .ptr 9 0 0 0), (8, .v (.int .i64 (srcF O p r (ws.take i)))), (23, .rsl y), (24, .v (.int .i64 ws.length)), (25, .v (.int .i64 i))] (fun l => tm = l) := htm
    conv at htm => whnf
    subst htm
    replace hhp_ : hp = chk false eh eo eb H O P Q r1 r2 N1 N2 bl ++ [Ent.cells 41 [.v (.int .i64 r.1), .v (.int .i64 r.2)]] := hhp_
    subst hhp_
    repeat ((conv => whnf); (first | refine Cnd.yes ?_ | refine Cnd.no ?_ | refine And.intro rfl ?_ | refine aom ?_ | refine Alt.std ?_ | (show Ko_ _ _ _ _; subst hKo_) | refine ctt ?_ | refine cff ?_))
    conv => whnf
    refine Cnd.mk (fun hlt => ?_) fun hge => ?_
    · have hin : i < ws.length := by have := of_decide_eq_true hlt; omega
      have ew : toI (cellAt (ws.map irow) (i : Int).toNat 0) = ws.getD i 0 := by have := toI_i hin; rwa [Nat.zero_add] at this
      obtain ⟨hw0, hw1⟩ := hWr (ws.getD i 0) (by simp [List.getD, hin])
      have hnx := srcF_next O p r ws hin
      obtain ⟨w, hw⟩ : ∃ w, ws.getD i 0 = w := ⟨_, rfl⟩
      rw [hw] at hw0 hw1 hnx ew
      have hwt : w.toNat < O.length := by omega
      have f0 : toI (cellAt (O.map rrow) (0 + w.toNat) (0 + 0)) = (O.getD w.toNat (0, 0)).1 := by rw [Nat.zero_add]; exact rcell0 O hwt
      have f1 : toI (cellAt (O.map rrow) (0 + w.toNat) (0 + 1)) = (O.getD w.toNat (0, 0)).2 := by rw [Nat.zero_add]; exact rcell1 O hwt
      repeat ((conv => whnf); (first | refine Cnd.yes ?_ | refine Cnd.no ?_ | refine And.intro rfl ?_ | refine aom ?_ | refine Alt.std ?_ | (show Ko_ _ _ _ _; subst hKo_) | refine ctt ?_ | refine cff ?_))
      conv => whnf
      refine ⟨3, [.int .i64], ws.map irow, .inl hyR, ?_⟩
      repeat ((conv => whnf); (first | refine Cnd.yes ?_ | refine Cnd.no ?_ | refine And.intro rfl ?_ | refine aom ?_ | refine Alt.std ?_ | (show Ko_ _ _ _ _; subst hKo_) | refine ctt ?_ | refine cff ?_))
      conv => whnf
      rw [ew]
      unfold srcC at hnx
      by_cases h1 : w < p
      · rw [decide_eq_true h1, Bool.true_or, if_pos rfl] at hnx
        repeat ((conv => whnf); (first | refine Cnd.yes ?_ | refine Cnd.no ?_ | refine And.intro rfl ?_ | refine aom ?_ | refine Alt.std ?_ | (show Ko_ _ _ _ _; subst hKo_) | refine ctt ?_ | refine cff ?_))
        conv => whnf
        (refine ⟨(fun s : Nat => ws.length - s) (i + 1), [0, 1, 2, 3, 4, 5, 6, 7, 8, 9], tmk 63 0 ((fun s : Nat => [(0, .ptr 0 0 0 0), (1, .v (.int .i64 p)), (2, .v (.int .u32 b)), (7, .ptr 9 0 0 0), (8, .v (.int .i64 (srcF O p r (ws.take s)))), (23, .rsl y), (24, .v (.int .i64 ws.length)), (25, .v (.int .i64 s))]) (i + 1)), (fun s : Nat => chk false eh eo eb H O P Q r1 r2 N1 N2 bl ++ [Ent.cells 41 [.v (.int .i64 r.1), .v (.int .i64 r.2)]]) (i + 1), ?_, ?_⟩; focus (first | (simp only []; omega) | omega))
        repeat ((conv => whnf); (first | refine Cnd.yes ?_ | refine Cnd.no ?_ | refine And.intro rfl ?_ | refine aom ?_ | refine Alt.std ?_ | (show Ko_ _ _ _ _; subst hKo_)))
        conv => whnf
        exact ⟨i + 1, hin, rfl, rfl, (tmkK_eq _ _ _ _).mpr rfl, rfl⟩
      · rw [decide_eq_false h1, Bool.false_or] at hnx
        by_cases h2 : (O.getD w.toNat (0, 0)).1 = r.1
        · rw [beq_iff_eq.2 h2, Bool.true_and] at hnx
          by_cases h3 : (O.getD w.toNat (0, 0)).2 < r.2
          · rw [decide_eq_true h3, if_pos rfl] at hnx
            repeat ((conv => whnf); (first | refine Cnd.yes ?_ | refine Cnd.no ?_ | refine And.intro rfl ?_ | refine aom ?_ | refine Alt.std ?_ | (show Ko_ _ _ _ _; subst hKo_) | refine ctt ?_ | refine cff ?_))
            conv => whnf
            rw [f0]
            repeat ((conv => whnf); (first | refine Cnd.yes ?_ | refine Cnd.no ?_ | refine And.intro rfl ?_ | refine aom ?_ | refine Alt.std ?_ | (show Ko_ _ _ _ _; subst hKo_) | refine ctt ?_ | refine cff ?_))
            conv => whnf
            rw [f1]
            repeat ((conv => whnf); (first | refine Cnd.yes ?_ | refine Cnd.no ?_ | refine And.intro rfl ?_ | refine aom ?_ | refine Alt.std ?_ | (show Ko_ _ _ _ _; subst hKo_) | refine ctt ?_ | refine cff ?_))
            conv => whnf
            (refine ⟨(fun s : Nat => ws.length - s) (i + 1), [0, 1, 2, 3, 4, 5, 6, 7, 8, 9], tmk 63 0 ((fun s : Nat => [(0, .ptr 0 0 0 0), (1, .v (.int .i64 p)), (2, .v (.int .u32 b)), (7, .ptr 9 0 0 0), (8, .v (.int .i64 (srcF O p r (ws.take s)))), (23, .rsl y), (24, .v (.int .i64 ws.length)), (25, .v (.int .i64 s))]) (i + 1)), (fun s : Nat => chk false eh eo eb H O P Q r1 r2 N1 N2 bl ++ [Ent.cells 41 [.v (.int .i64 r.1), .v (.int .i64 r.2)]]) (i + 1), ?_, ?_⟩; focus (first | (simp only []; omega) | omega))
            repeat ((conv => whnf); (first | refine Cnd.yes ?_ | refine Cnd.no ?_ | refine And.intro rfl ?_ | refine aom ?_ | refine Alt.std ?_ | (show Ko_ _ _ _ _; subst hKo_)))
            conv => whnf
            exact ⟨i + 1, hin, rfl, rfl, (tmkK_eq _ _ _ _).mpr rfl, rfl⟩
          · rw [decide_eq_false h3, if_neg (by simp)] at hnx
            repeat ((conv => whnf); (first | refine Cnd.yes ?_ | refine Cnd.no ?_ | refine And.intro rfl ?_ | refine aom ?_ | refine Alt.std ?_ | (show Ko_ _ _ _ _; subst hKo_) | refine ctt ?_ | refine cff ?_))
            conv => whnf
            rw [f0]
            repeat ((conv => whnf); (first | refine Cnd.yes ?_ | refine Cnd.no ?_ | refine And.intro rfl ?_ | refine aom ?_ | refine Alt.std ?_ | (show Ko_ _ _ _ _; subst hKo_) | refine ctt ?_ | refine cff ?_))
            conv => whnf
            rw [f1]
            repeat ((conv => whnf); (first | refine Cnd.yes ?_ | refine Cnd.no ?_ | refine And.intro rfl ?_ | refine aom ?_ | refine Alt.std ?_ | (show Ko_ _ _ _ _; subst hKo_) | refine ctt ?_ | refine cff ?_))
            conv => whnf
            (refine ⟨(fun s : Nat => ws.length - s) (i + 1), [0, 1, 2, 3, 4, 5, 6, 7, 8, 9], tmk 63 0 ((fun s : Nat => [(0, .ptr 0 0 0 0), (1, .v (.int .i64 p)), (2, .v (.int .u32 b)), (7, .ptr 9 0 0 0), (8, .v (.int .i64 (srcF O p r (ws.take s)))), (23, .rsl y), (24, .v (.int .i64 ws.length)), (25, .v (.int .i64 s))]) (i + 1)), (fun s : Nat => chk false eh eo eb H O P Q r1 r2 N1 N2 bl ++ [Ent.cells 41 [.v (.int .i64 r.1), .v (.int .i64 r.2)]]) (i + 1), ?_, ?_⟩; focus (first | (simp only []; omega) | omega))
            repeat ((conv => whnf); (first | refine Cnd.yes ?_ | refine Cnd.no ?_ | refine And.intro rfl ?_ | refine aom ?_ | refine Alt.std ?_ | (show Ko_ _ _ _ _; subst hKo_)))
            conv => whnf
            exact ⟨i + 1, hin, rfl, rfl, (tmkK_eq _ _ _ _).mpr rfl, rfl⟩
        · rw [beq_eq_false_iff_ne.2 h2, Bool.false_and, if_neg (by simp)] at hnx
          repeat ((conv => whnf); (first | refine Cnd.yes ?_ | refine Cnd.no ?_ | refine And.intro rfl ?_ | refine aom ?_ | refine Alt.std ?_ | (show Ko_ _ _ _ _; subst hKo_) | refine ctt ?_ | refine cff ?_))
          conv => whnf
          rw [f0]
          repeat ((conv => whnf); (first | refine Cnd.yes ?_ | refine Cnd.no ?_ | refine And.intro rfl ?_ | refine aom ?_ | refine Alt.std ?_ | (show Ko_ _ _ _ _; subst hKo_) | refine ctt ?_ | refine cff ?_))
          conv => whnf
          (refine ⟨(fun s : Nat => ws.length - s) (i + 1), [0, 1, 2, 3, 4, 5, 6, 7, 8, 9], tmk 63 0 ((fun s : Nat => [(0, .ptr 0 0 0 0), (1, .v (.int .i64 p)), (2, .v (.int .u32 b)), (7, .ptr 9 0 0 0), (8, .v (.int .i64 (srcF O p r (ws.take s)))), (23, .rsl y), (24, .v (.int .i64 ws.length)), (25, .v (.int .i64 s))]) (i + 1)), (fun s : Nat => chk false eh eo eb H O P Q r1 r2 N1 N2 bl ++ [Ent.cells 41 [.v (.int .i64 r.1), .v (.int .i64 r.2)]]) (i + 1), ?_, ?_⟩; focus (first | (simp only []; omega) | omega))
          repeat ((conv => whnf); (first | refine Cnd.yes ?_ | refine Cnd.no ?_ | refine And.intro rfl ?_ | refine aom ?_ | refine Alt.std ?_ | (show Ko_ _ _ _ _; subst hKo_)))
          conv => whnf
          exact ⟨i + 1, hin, rfl, rfl, (tmkK_eq _ _ _ _).mpr rfl, rfl⟩
    · obtain rfl : i = ws.length := by have := of_decide_eq_false hge; omega
      rw [List.take_length]
      repeat ((conv => whnf); (first | refine Cnd.yes ?_ | refine Cnd.no ?_ | refine And.intro rfl ?_ | refine aom ?_ | refine Alt.std ?_ | (show Ko_ _ _ _ _; subst hKo_) | refine ctt ?_ | refine cff ?_))
      conv => whnf
      refine ⟨[0, 1, 2, 3, 4, 5, 6, 7, 8], .v (.int .i64 (srcF O p r ws)), chk false eh eo eb H O P Q r1 r2 N1 N2 bl, ?_⟩
      repeat ((conv => whnf); (first | refine Cnd.yes ?_ | refine Cnd.no ?_ | refine And.intro rfl ?_ | refine aom ?_ | refine Alt.std ?_ | (show Ko_ _ _ _ _; subst hKo_)))
      conv => whnf
      exact hK
def sourceS : Vc.Spec := fun args hp M K => ∃ (o : Bool) (eh eo eb : TypeId) (H : Hs) (O : List Rf) (P Q : List Value) (r1 r2 : Nat) (N1 N2 : HL) (bl : List Int) (W : Int → List Int) (p : Nat) (b : Int), args = [.ptr 0 0 0 0, .v (.int .i64 p), .v (.int .u32 b)] ∧ hp = chk o eh eo eb H O P Q r1 r2 N1 N2 bl ∧ p < O.length ∧ O.length ≤ 1000000 ∧
  WrIn N1 r1 W ∧ (∀ w ∈ W b, 0 ≤ w ∧ w < O.length) ∧ (W b).length ≤ 1000000 ∧ K (.v (.int .i64 (srcF O p (O.getD p (0, 0)) (W b)))) (chk o eh eo eb H O P Q r1 r2 N1 N2 bl)
theorem source_ok : SOK Tryd.prog 60 sourceS := by
  refine TOK.weaken (TOK.out (runF_eq G0_ok mixed at60.1 at60.2 pf60_eq)) fun args hp M K h => ?_
  obtain ⟨o, eh, eo, eb, H, O, P, Q, r1, r2, N1, N2, bl, W, p, b, rfl, rfl, h1, h2, h3, h4, h5, h6⟩ := h
  cases o
  · exact source_runF M K eh eo eb H O P Q r1 r2 N1 N2 bl W p b h1 h2 h3 h4 h5 h6
  · exact source_runT M K eh eo eb H O P Q r1 r2 N1 N2 bl W p b h1 h2 h3 h4 h5 h6
def opS : Vc.Spec := fun args hp M K => ∃ (o : Bool) (eh eo eb : TypeId) (H : Hs) (O : List Rf) (P Q : List Value) (r1 r2 : Nat) (N1 N2 : HL) (bl : List Int) (p : Nat), args = [.ptr 0 0 0 0, .v (.int .i64 p)] ∧ hp = chk o eh eo eb H O P Q r1 r2 N1 N2 bl ∧ HIn M H ∧ p < O.length ∧ RefOK H (O.getD p (0, 0)) ∧
  K (.agg (osv (opAt H (O.getD p (0, 0))))) (chk o eh eo eb H O P Q r1 r2 N1 N2 bl)
theorem op_ok : SOK Tryd.prog 55 opS := by
  refine TOK.weaken (TOK.out (runF_eq G0_ok mixed at55.1 at55.2 pf55_eq)) fun args hp M K h => ?_
  obtain ⟨o, eh, eo, eb, H, O, P, Q, r1, r2, N1, N2, bl, p, rfl, rfl, h1, h2, h3, h4⟩ := h
  cases o
  · exact op_runF M K eh eo eb H O P Q r1 r2 N1 N2 bl p h1 h2 h3 h4
  · exact op_runT M K eh eo eb H O P Q r1 r2 N1 N2 bl p h1 h2 h3 h4
end Go.Proofs.YtkfkoldaeplckaaDoor
/-
  Which error it is: Alike by a walk of its own; Is, walked.
-/
namespace Go.Proofs.YtkfkoldaeplckaaDoor
open Go Go.Vc Go.RowKit
set_option maxRecDepth 100000
set_option linter.unusedSimpArgs false
set_option linter.unusedVariables false
set_option maxHeartbeats 4000000
theorem Tryd.compES : (Tryd.prog.info? 138).map (·.comparable) = some true := by kernel_rfl
theorem Tryd.sizeES : (Tryd.prog.info? 155).map (·.size) = some 1 := by kernel_rfl
theorem alike_same (a : Addr) (w : World) : Calls Tryd.prog 95 #[.iface 138 (.pointer (some a)), .iface 138 (.pointer (some a))] w fun e w' => e = .returned (.bool true) ∧ w' = w := by
  obtain ⟨i, hi, hcmp⟩ := Option.map_eq_some_iff.1 Tryd.compES
  obtain ⟨j, hj, _⟩ := Option.map_eq_some_iff.1 Tryd.sizeES
  go_enter Tryd.func95, Tryd.ntmps95
  go_wp2
  rw [run_eql_iface_ptr_same w a Tryd.underlying45 Tryd.underlying138 hi hcmp hj]
  go_wp2
  go_ret
  exact ⟨rfl, rfl⟩
theorem alike_other (a b : Addr) (w : World) {ca cb : Array Value} {ta tb : TypeId} (hne : a ≠ b) (ha : w.heap[a.block]? = some (.cells ca ta (0, 0))) (hb : w.heap[b.block]? = some (.cells cb tb (0, 0))) :
    Calls Tryd.prog 95 #[.iface 138 (.pointer (some a)), .iface 138 (.pointer (some b))] w fun e w' => e = .returned (.bool false) ∧ w' = w := by
  obtain ⟨i, hi, hcmp⟩ := Option.map_eq_some_iff.1 Tryd.compES
  obtain ⟨j, hj, hjs⟩ := Option.map_eq_some_iff.1 Tryd.sizeES
  go_enter Tryd.func95, Tryd.ntmps95
  go_wp2
  rw [run_eql_iface_ptr_other w Tryd.underlying45 Tryd.underlying138 hi hcmp hj (by rw [hjs]; decide) hne ha hb]
  go_wp2
  go_ret
  exact ⟨rfl, rfl⟩
def alikeS : Vc.Spec := fun args hp M K => ∃ a b : Addr, args = [.v (.iface 138 (.pointer (some a))), .v (.iface 138 (.pointer (some b)))] ∧ (∃ c t, M a.block = some (.cells c t (0, 0))) ∧ (∃ c t, M b.block = some (.cells c t (0, 0))) ∧ K (.v (.bool (decide (a = b)))) hp
theorem alike_ok : SOK Tryd.prog 95 alikeS := by
  refine ⟨⟨_, at95.1, by kernel_rfl, at95.2⟩, ?_⟩
  rintro args hp M K ⟨a, b, rfl, ⟨ca, ta, ha⟩, ⟨cb, tb, hb⟩, hK⟩ ρ F w vs H hD
  obtain ⟨v1, v2, rfl⟩ : ∃ v1 v2, vs = [v1, v2] := by
    have := hD.length
    match vs, this with
    | [x, y], _ => exact ⟨x, y, rfl⟩
  simp only [DenL, Den, and_true] at hD
  obtain ⟨rfl, rfl⟩ := hD
  by_cases h : a = b
  · subst h
    rw [decide_eq_true rfl] at hK
    refine (alike_same a w).mono ?_
    rintro e w' ⟨rfl, rfl⟩
    exact ⟨_, rfl, _, ρ, hp, M, F, hK, Nat.le_refl _, Ext.refl _ _, H, Gr.refl _ _, Same.refl _, rfl⟩
  · rw [decide_eq_false h] at hK
    refine (alike_other a b w h (H.frm _ _ (H.sub _ _ ha)) (H.frm _ _ (H.sub _ _ hb))).mono ?_
    rintro e w' ⟨rfl, rfl⟩
    exact ⟨_, rfl, _, ρ, hp, M, F, hK, Nat.le_refl _, Ext.refl _ _, H, Gr.refl _ _, Same.refl _, rfl⟩
/-- The listed errors: where each variable points. -/
structure Sents (M : HL) (ad : Nat → Addr) : Prop where
  g : ∀ i, i < 11 → mcell M ⟨i, 0, none⟩ = some (.iface 138 (.pointer (some (ad i))))
  b : ∀ i, i < 11 → ∃ c t, M (ad i).block = some (.cells c t (0, 0))
  inj : ∀ i j, i < 11 → j < 11 → ad i = ad j → i = j
theorem Sents.mono {M Mr : HL} {ad : Nat → Addr} (h : Sents M ad) (hM : FLe M Mr) : Sents Mr ad := by
  refine ⟨fun i hi => ?_, fun i hi => ?_, h.inj⟩
  · have := h.g i hi
    unfold mcell at this ⊢
    cases hm : M i with
    | none => simp [hm] at this
    | some o => simp only [hm] at this; simp only [hM _ _ hm]; exact this
  · obtain ⟨c, t, hc⟩ := h.b i hi
    exact ⟨c, t, hM _ _ hc⟩
/-- The variable of the error that stands at that place of the list. -/
def gl (p : Nat) : Nat := [0, 4, 5, 1, 6, 7, 8, 9, 10, 2, 3].getD p 0
theorem gl_inj : ∀ p, p < 11 → ∀ q, q < 11 → gl p = gl q → p = q := by decide
theorem gl_lt : ∀ p, p < 11 → gl p < 11 := by decide
noncomputable def specsE : Nat → Option Vc.Trans := tget [(95, frameT alikeS)]
noncomputable def GE : Nat → Option Vc.Trans := tabG specsE (tget tab) 6
theorem GE_ok : GOK Tryd.prog GE := tabG_ok (GOK.cons (frame_ok alike_ok) .nil) tab_ok 6
def eRows (ad : Nat → Addr) : List (List Value) := [[.iface 138 (.pointer (some (ad 0)))], [.iface 138 (.pointer (some (ad 4)))], [.iface 138 (.pointer (some (ad 5)))], [.iface 138 (.pointer (some (ad 1)))], [.iface 138 (.pointer (some (ad 6)))], [.iface 138 (.pointer (some (ad 7)))], [.iface 138 (.pointer (some (ad 8)))], [.iface 138 (.pointer (some (ad 9)))], [.iface 138 (.pointer (some (ad 10)))], [.iface 138 (.pointer (some (ad 2)))], [.iface 138 (.pointer (some (ad 3)))]]
theorem eRows_at (ad : Nat → Addr) {i : Nat} (hi : i < 11) : cellAt (eRows ad) (0 + (i : Int).toNat) 0 = .iface 138 (.pointer (some (ad (gl i)))) := by
  rcases (show i = 0 ∨ i = 1 ∨ i = 2 ∨ i = 3 ∨ i = 4 ∨ i = 5 ∨ i = 6 ∨ i = 7 ∨ i = 8 ∨ i = 9 ∨ i = 10 by omega) with h | h | h | h | h | h | h | h | h | h | h <;> subst h <;> rfl
set_option maxHeartbeats 4000000 in
theorem sent_run (M : HL) (K : SV → List Ent → HL → Prop) (ad : Nat → Addr) (hS : Sents M ad) (p : Nat) (hp : p < 11) (hK : K (.v (.int .i64 (101 + p : Nat))) [] M) :
    runF GE pf83 [.v (.iface 138 (.pointer (some (ad (gl p)))))] [] M fun v hp2 M2 => ∃ m v' hp', Wk (llen ([] : List Ent)) m [v] hp2 [v'] hp' (K v' hp' M2) := by
  repeat ((conv => whnf); (first | refine Cnd.yes ?_ | refine Cnd.no ?_ | refine And.intro rfl ?_ | refine aom ?_ | refine Alt.std ?_ | (show Ko_ _ _ _ _; subst hKo_)))
  conv => whnf
  refine ⟨_, hS.g 0 (by omega), ?_⟩
  repeat ((conv => whnf); (first | refine Cnd.yes ?_ | refine Cnd.no ?_ | refine And.intro rfl ?_ | refine aom ?_ | refine Alt.std ?_ | (show Ko_ _ _ _ _; subst hKo_)))
  conv => whnf
  refine ⟨_, hS.g 4 (by omega), ?_⟩
  repeat ((conv => whnf); (first | refine Cnd.yes ?_ | refine Cnd.no ?_ | refine And.intro rfl ?_ | refine aom ?_ | refine Alt.std ?_ | (show Ko_ _ _ _ _; subst hKo_)))
  conv => whnf
  refine ⟨_, hS.g 5 (by omega), ?_⟩
  repeat ((conv => whnf); (first | refine Cnd.yes ?_ | refine Cnd.no ?_ | refine And.intro rfl ?_ | refine aom ?_ | refine Alt.std ?_ | (show Ko_ _ _ _ _; subst hKo_)))
  conv => whnf
  refine ⟨_, hS.g 1 (by omega), ?_⟩
  repeat ((conv => whnf); (first | refine Cnd.yes ?_ | refine Cnd.no ?_ | refine And.intro rfl ?_ | refine aom ?_ | refine Alt.std ?_ | (show Ko_ _ _ _ _; subst hKo_)))
  conv => whnf
  refine ⟨_, hS.g 6 (by omega), ?_⟩
  repeat ((conv => whnf); (first | refine Cnd.yes ?_ | refine Cnd.no ?_ | refine And.intro rfl ?_ | refine aom ?_ | refine Alt.std ?_ | (show Ko_ _ _ _ _; subst hKo_)))
  conv => whnf
  refine ⟨_, hS.g 7 (by omega), ?_⟩
  repeat ((conv => whnf); (first | refine Cnd.yes ?_ | refine Cnd.no ?_ | refine And.intro rfl ?_ | refine aom ?_ | refine Alt.std ?_ | (show Ko_ _ _ _ _; subst hKo_)))
  conv => whnf
  refine ⟨_, hS.g 8 (by omega), ?_⟩
  repeat ((conv => whnf); (first | refine Cnd.yes ?_ | refine Cnd.no ?_ | refine And.intro rfl ?_ | refine aom ?_ | refine Alt.std ?_ | (show Ko_ _ _ _ _; subst hKo_)))
  conv => whnf
  refine ⟨_, hS.g 9 (by omega), ?_⟩
  repeat ((conv => whnf); (first | refine Cnd.yes ?_ | refine Cnd.no ?_ | refine And.intro rfl ?_ | refine aom ?_ | refine Alt.std ?_ | (show Ko_ _ _ _ _; subst hKo_)))
  conv => whnf
  refine ⟨_, hS.g 10 (by omega), ?_⟩
  repeat ((conv => whnf); (first | refine Cnd.yes ?_ | refine Cnd.no ?_ | refine And.intro rfl ?_ | refine aom ?_ | refine Alt.std ?_ | (show Ko_ _ _ _ _; subst hKo_)))
  conv => whnf
  refine ⟨_, hS.g 2 (by omega), ?_⟩
  repeat ((conv => whnf); (first | refine Cnd.yes ?_ | refine Cnd.no ?_ | refine And.intro rfl ?_ | refine aom ?_ | refine Alt.std ?_ | (show Ko_ _ _ _ _; subst hKo_)))
  conv => whnf
  refine ⟨_, hS.g 3 (by omega), ?_⟩
  repeat ((conv => whnf); (first | refine Cnd.yes ?_ | refine Cnd.no ?_ | refine And.intro rfl ?_ | refine aom ?_ | refine Alt.std ?_ | (show Ko_ _ _ _ _; subst hKo_)))
  conv => whnf
  refine ⟨fun cnt tm hp M' => ∃ i, i ≤ p ∧ cnt = 11 - i ∧ M' = M ∧ tmkK 20 0 [(0, .v (.iface 138 (.pointer (some (ad (gl p)))))), (3, .slc 0 1 0 11), (4, .v (.int .i64 (i : Nat)))] (fun l => tm = l) ∧ hp = [.row true 45 [.raw] (eRows ad)],
    ⟨11, [0], tmk 20 0 [(0, .v (.iface 138 (.pointer (some (ad (gl p)))))), (3, .slc 0 1 0 11), (4, .v (.int .i64 (0 : Nat)))], [.row true 45 [.raw] (eRows ad)], ?_⟩, ?_⟩
  · repeat ((conv => whnf); (first | refine Cnd.yes ?_ | refine Cnd.no ?_ | refine And.intro rfl ?_ | refine aom ?_ | refine Alt.std ?_ | (show Ko_ _ _ _ _; subst hKo_)))
    conv => whnf
    exact ⟨0, by omega, by omega, rfl, (tmkK_eq _ _ _ _).mpr rfl, rfl⟩
  · rintro Ko_ hKo_ cnt tm hp M' ⟨i, hi, rfl, rfl, htm, rfl⟩
    conv at htm => whnf
    subst htm
    repeat ((conv => whnf); (first | refine Cnd.yes ?_ | refine Cnd.no ?_ | refine And.intro rfl ?_ | refine aom ?_ | refine Alt.std ?_ | (show Ko_ _ _ _ _; subst hKo_)))
    conv => whnf
    refine Cnd.tt (decide_eq_true (by omega)) ?_
    repeat ((conv => whnf); (first | refine Cnd.yes ?_ | refine Cnd.no ?_ | refine And.intro rfl ?_ | refine aom ?_ | refine Alt.std ?_ | (show Ko_ _ _ _ _; subst hKo_)))
    conv => whnf
    refine ⟨by show 0 + (i : Int).toNat < 11; omega, ?_⟩
    repeat ((conv => whnf); (first | refine Cnd.yes ?_ | refine Cnd.no ?_ | refine And.intro rfl ?_ | refine aom ?_ | refine Alt.std ?_ | (show Ko_ _ _ _ _; subst hKo_)))
    conv => whnf
    rw [eRows_at ad (by omega)]
    rintro _ rfl _
    repeat ((conv => whnf); (first | refine Cnd.yes ?_ | refine Cnd.no ?_ | refine And.intro rfl ?_ | refine aom ?_ | refine Alt.std ?_ | (show Ko_ _ _ _ _; subst hKo_)))
    conv => whnf
    refine ⟨ad (gl p), ad (gl i), rfl, hS.b _ (gl_lt p hp), hS.b _ (gl_lt i (by omega)), ?_⟩
    by_cases hpi : i = p
    · subst hpi
      rw [decide_eq_true rfl]
      repeat ((conv => whnf); (first | refine Cnd.yes ?_ | refine Cnd.no ?_ | refine And.intro rfl ?_ | refine aom ?_ | refine Alt.std ?_ | (show Ko_ _ _ _ _; subst hKo_)))
      conv => whnf
      have e : IntKind.i64.wrap (101 + (i : Int)) = ((101 + i : Nat) : Int) := by rw [IntKind.wrap_i64]; omega
      rw [e]
      refine ⟨[], .v (.int .i64 (101 + i : Nat)), [], ?_⟩
      repeat ((conv => whnf); (first | refine Cnd.yes ?_ | refine Cnd.no ?_ | refine And.intro rfl ?_ | refine aom ?_ | refine Alt.std ?_ | (show Ko_ _ _ _ _; subst hKo_)))
      conv => whnf
      exact hK
    · rw [decide_eq_false fun h => hpi (gl_inj p hp i (by omega) (hS.inj _ _ (gl_lt p hp) (gl_lt i (by omega)) h)).symm]
      repeat ((conv => whnf); (first | refine Cnd.yes ?_ | refine Cnd.no ?_ | refine And.intro rfl ?_ | refine aom ?_ | refine Alt.std ?_ | (show Ko_ _ _ _ _; subst hKo_)))
      conv => whnf
      refine ⟨11 - (i + 1), [0], tmk 20 0 [(0, .v (.iface 138 (.pointer (some (ad (gl p)))))), (3, .slc 0 1 0 11), (4, .v (.int .i64 (i + 1 : Nat)))], [.row true 45 [.raw] (eRows ad)], by omega, ?_⟩
      repeat ((conv => whnf); (first | refine Cnd.yes ?_ | refine Cnd.no ?_ | refine And.intro rfl ?_ | refine aom ?_ | refine Alt.std ?_ | (show Ko_ _ _ _ _; subst hKo_)))
      conv => whnf
      exact ⟨i + 1, by omega, rfl, rfl, (tmkK_eq _ _ _ _).mpr rfl, rfl⟩
def sentS : Vc.Spec := fun args hp M K => ∃ (ad : Nat → Addr) (p : Nat), Sents M ad ∧ p < 11 ∧ args = [.v (.iface 138 (.pointer (some (ad (gl p)))))] ∧ hp = [] ∧ K (.v (.int .i64 (101 + p : Nat))) []
theorem sent_ok : SOK Tryd.prog 83 sentS := by
  refine TOK.weaken (TOK.out (runF_eq GE_ok mixed at83.1 at83.2 pf83_eq)) fun args hp M K h => ?_
  obtain ⟨ad, p, hS, hp, rfl, rfl, h⟩ := h
  exact sent_run M K ad hS p hp h
theorem sameNil_run (M : HL) (K : SV → List Ent → HL → Prop) (hK : K (.v (.bool true)) [] M) : runF G0 pf63 [.v (.slice none 0 0), .v (.slice none 0 0)] [] M K := by
  repeat ((conv => whnf); (first | refine Cnd.yes ?_ | refine Cnd.no ?_ | refine And.intro rfl ?_ | refine aom ?_ | refine Alt.std ?_ | (show Ko_ _ _ _ _; subst hKo_)))
  conv => whnf
  refine ⟨fun cnt tm hp M' => cnt = 0 ∧ M' = M ∧ tmkK 29 0 [(0, .v (.slice none 0 0)), (1, .v (.slice none 0 0)), (5, .v (.int .i64 0))] (fun l => tm = l) ∧ hp = [], ⟨0, [], tmk 29 0 [(0, .v (.slice none 0 0)), (1, .v (.slice none 0 0)), (5, .v (.int .i64 0))], [], ?_⟩, ?_⟩
  · repeat ((conv => whnf); (first | refine Cnd.yes ?_ | refine Cnd.no ?_ | refine And.intro rfl ?_ | refine aom ?_ | refine Alt.std ?_ | (show Ko_ _ _ _ _; subst hKo_)))
    conv => whnf
  · rintro Ko_ hKo_ cnt tm hp M' ⟨rfl, rfl, htm, rfl⟩
    conv at htm => whnf
    subst htm
    repeat ((conv => whnf); (first | refine Cnd.yes ?_ | refine Cnd.no ?_ | refine And.intro rfl ?_ | refine aom ?_ | refine Alt.std ?_ | (show Ko_ _ _ _ _; subst hKo_)))
    conv => whnf
    exact hK
theorem same_run (o o2 : Bool) (e e2 : TypeId) (M : HL) (K : SV → List Ent → HL → Prop) (a b : List Int) (ha : a.length ≤ 1000000) (hb : b.length ≤ 1000000)
    (hK : K (.v (.bool (decide (a = b)))) [.row o e [.int .i64] (a.map irow), .row o2 e2 [.int .i64] (b.map irow)] M) :
    runF G0 pf63 [.slc 0 1 0 a.length, .slc 1 1 0 b.length] [.row o e [.int .i64] (a.map irow), .row o2 e2 [.int .i64] (b.map irow)] M K := by
  repeat ((conv => whnf); (first | refine Cnd.yes ?_ | refine Cnd.no ?_ | refine And.intro rfl ?_ | refine aom ?_ | refine Alt.std ?_ | (show Ko_ _ _ _ _; subst hKo_)))
  conv => whnf
  by_cases hl : a.length = b.length
  · refine Cnd.ff (by rw [hl]; simp) ?_
    repeat ((conv => whnf); (first | refine Cnd.yes ?_ | refine Cnd.no ?_ | refine And.intro rfl ?_ | refine aom ?_ | refine Alt.std ?_ | (show Ko_ _ _ _ _; subst hKo_)))
    conv => whnf
    refine ⟨fun cnt tm hp M' => ∃ i, i ≤ a.length ∧ (∀ j, j < i → a.getD j 0 = b.getD j 0) ∧ cnt = a.length - i ∧ M' = M ∧ tmkK 29 0 [(0, .slc 0 1 0 a.length), (1, .slc 1 1 0 b.length), (5, .v (.int .i64 (i : Nat)))] (fun l => tm = l) ∧ hp = [.row o e [.int .i64] (a.map irow), .row o2 e2 [.int .i64] (b.map irow)],
      ⟨a.length, [0, 1], tmk 29 0 [(0, .slc 0 1 0 a.length), (1, .slc 1 1 0 b.length), (5, .v (.int .i64 (0 : Nat)))], [.row o e [.int .i64] (a.map irow), .row o2 e2 [.int .i64] (b.map irow)], ?_⟩, ?_⟩
    · repeat ((conv => whnf); (first | refine Cnd.yes ?_ | refine Cnd.no ?_ | refine And.intro rfl ?_ | refine aom ?_ | refine Alt.std ?_ | (show Ko_ _ _ _ _; subst hKo_)))
      conv => whnf
      exact ⟨0, by omega, fun j hj => by omega, by omega, rfl, (tmkK_eq _ _ _ _).mpr rfl, rfl⟩
    · rintro Ko_ hKo_ cnt tm hp M' ⟨i, hi, hall, rfl, rfl, htm, rfl⟩
      conv at htm => whnf
      subst htm
      repeat ((conv => whnf); (first | refine Cnd.yes ?_ | refine Cnd.no ?_ | refine And.intro rfl ?_ | refine aom ?_ | refine Alt.std ?_ | (show Ko_ _ _ _ _; subst hKo_)))
      conv => whnf
      refine Cnd.mk (fun hlt => ?_) fun hge => ?_
      · have hin : i < a.length := by have := of_decide_eq_true hlt; omega
        repeat ((conv => whnf); (first | refine Cnd.yes ?_ | refine Cnd.no ?_ | refine And.intro rfl ?_ | refine aom ?_ | refine Alt.std ?_ | (show Ko_ _ _ _ _; subst hKo_)))
        conv => whnf
        rw [toI_i hin, toI_i (by omega)]
        by_cases hv : a.getD i 0 = b.getD i 0
        · rw [hv]
          rw [show (b.getD i 0 == b.getD i 0) = true from by simp]
          repeat ((conv => whnf); (first | refine Cnd.yes ?_ | refine Cnd.no ?_ | refine And.intro rfl ?_ | refine aom ?_ | refine Alt.std ?_ | (show Ko_ _ _ _ _; subst hKo_)))
          conv => whnf
          refine ⟨a.length - (i + 1), [0, 1], tmk 29 0 [(0, .slc 0 1 0 a.length), (1, .slc 1 1 0 b.length), (5, .v (.int .i64 (i + 1 : Nat)))], [.row o e [.int .i64] (a.map irow), .row o2 e2 [.int .i64] (b.map irow)], by omega, ?_⟩
          repeat ((conv => whnf); (first | refine Cnd.yes ?_ | refine Cnd.no ?_ | refine And.intro rfl ?_ | refine aom ?_ | refine Alt.std ?_ | (show Ko_ _ _ _ _; subst hKo_)))
          conv => whnf
          exact ⟨i + 1, by omega, fun j hj => by
            by_cases h : j = i
            · rw [h]; exact hv
            · exact hall j (by omega), rfl, rfl, (tmkK_eq _ _ _ _).mpr rfl, rfl⟩
        · rw [show (a.getD i 0 == b.getD i 0) = false from by simpa using hv]
          repeat ((conv => whnf); (first | refine Cnd.yes ?_ | refine Cnd.no ?_ | refine And.intro rfl ?_ | refine aom ?_ | refine Alt.std ?_ | (show Ko_ _ _ _ _; subst hKo_)))
          conv => whnf
          rw [decide_eq_false (fun h => hv (by rw [h]))] at hK
          exact hK
      · have hin : i = a.length := by have := of_decide_eq_false hge; omega
        subst hin
        repeat ((conv => whnf); (first | refine Cnd.yes ?_ | refine Cnd.no ?_ | refine And.intro rfl ?_ | refine aom ?_ | refine Alt.std ?_ | (show Ko_ _ _ _ _; subst hKo_)))
        conv => whnf
        have he : a = b := by
          refine List.ext_getElem hl fun j h1 h2 => ?_
          have := hall j h1
          simpa [List.getD, List.getElem?_eq_getElem h1, List.getElem?_eq_getElem h2] using this
        rw [decide_eq_true he] at hK
        exact hK
  · refine Cnd.tt (by simp only [bne_iff_ne]; omega) ?_
    repeat ((conv => whnf); (first | refine Cnd.yes ?_ | refine Cnd.no ?_ | refine And.intro rfl ?_ | refine aom ?_ | refine Alt.std ?_ | (show Ko_ _ _ _ _; subst hKo_)))
    conv => whnf
    rw [decide_eq_false (fun h => hl (by rw [h]))] at hK
    exact hK
def sameS : Vc.Spec := fun args hp _ K => (args = [.v (.slice none 0 0), .v (.slice none 0 0)] ∧ hp = [] ∧ K (.v (.bool true)) []) ∨
  (∃ (o o2 : Bool) (e e2 : TypeId) (a b : List Int), args = [.slc 0 1 0 a.length, .slc 1 1 0 b.length] ∧ hp = [.row o e [.int .i64] (a.map irow), .row o2 e2 [.int .i64] (b.map irow)] ∧ a.length ≤ 1000000 ∧ b.length ≤ 1000000 ∧ K (.v (.bool (decide (a = b)))) hp)
theorem same_ok : SOK Tryd.prog 63 sameS := by
  refine TOK.weaken (runF_eq G0_ok mixed at63.1 at63.2 pf63_eq) fun args hp M K h => ?_
  rcases h with ⟨rfl, rfl, h⟩ | ⟨o, o2, e, e2, a, b, rfl, rfl, h1, h2, h3⟩
  · exact sameNil_run M K h
  · exact same_run o o2 e e2 M K a b h1 h2 h3
noncomputable def specsF : Nat → Option Vc.Trans := tget [(95, frameT alikeS), (83, frameT sentS), (63, frameT sameS)]
noncomputable def GF : Nat → Option Vc.Trans := tabG specsF (tget tab) 8
theorem GF_ok : GOK Tryd.prog GF := tabG_ok (GOK.cons (frame_ok alike_ok) (GOK.cons (frame_ok sent_ok) (GOK.cons (frame_ok same_ok) .nil))) tab_ok 8
theorem fsent_run (M : HL) (K : SV → List Ent → HL → Prop) (ad : Nat → Addr) (hS : Sents M ad) (p : Nat) (hp : p < 11) (n : Int) (hn : n ≠ 0) (hK : K (.agg [.v (.int .i64 (101 + p : Nat)), .v (.slice none 0 0)]) [] M) :
    runF GF pf62 [.v (.iface 138 (.pointer (some (ad (gl p))))), .v (.int .i64 n)] [] M fun v hp2 M2 => ∃ m v' hp', Wk (llen ([] : List Ent)) m [v] hp2 [v'] hp' (K v' hp' M2) := by
  repeat ((conv => whnf); (first | refine Cnd.yes ?_ | refine Cnd.no ?_ | refine And.intro rfl ?_ | refine aom ?_ | refine Alt.std ?_ | (show Ko_ _ _ _ _; subst hKo_)))
  conv => whnf
  refine Cnd.ff (by simpa using hn) ?_
  repeat ((conv => whnf); (first | refine Cnd.yes ?_ | refine Cnd.no ?_ | refine And.intro rfl ?_ | refine aom ?_ | refine Alt.std ?_ | (show Ko_ _ _ _ _; subst hKo_)))
  conv => whnf
  refine ⟨ad, p, hS, hp, rfl, rfl, ?_⟩
  repeat ((conv => whnf); (first | refine Cnd.yes ?_ | refine Cnd.no ?_ | refine And.intro rfl ?_ | refine aom ?_ | refine Alt.std ?_ | (show Ko_ _ _ _ _; subst hKo_)))
  conv => whnf
  refine ⟨[], .agg [.v (.int .i64 (101 + p : Nat)), .v (.slice none 0 0)], [], ?_⟩
  repeat ((conv => whnf); (first | refine Cnd.yes ?_ | refine Cnd.no ?_ | refine And.intro rfl ?_ | refine aom ?_ | refine Alt.std ?_ | (show Ko_ _ _ _ _; subst hKo_)))
  conv => whnf
  exact hK
def fsentS : Vc.Spec := fun args hp M K => ∃ (ad : Nat → Addr) (p : Nat) (n : Int), Sents M ad ∧ p < 11 ∧ n ≠ 0 ∧ args = [.v (.iface 138 (.pointer (some (ad (gl p))))), .v (.int .i64 n)] ∧ hp = [] ∧ K (.agg [.v (.int .i64 (101 + p : Nat)), .v (.slice none 0 0)]) []
theorem fsent_ok : SOK Tryd.prog 62 fsentS := by
  refine TOK.weaken (TOK.out (runF_eq GF_ok mixed at62.1 at62.2 pf62_eq)) fun args hp M K h => ?_
  obtain ⟨ad, p, n, hS, hp, hn, rfl, rfl, h⟩ := h
  exact fsent_run M K ad hS p hp n hn h
noncomputable def specsH : Nat → Option Vc.Trans := tget [(95, frameT alikeS), (83, frameT sentS), (63, frameT sameS), (62, frameT fsentS)]
noncomputable def GH : Nat → Option Vc.Trans := tabG specsH (tget tab) 8
theorem GH_ok : GOK Tryd.prog GH := tabG_ok (GOK.cons (frame_ok alike_ok) (GOK.cons (frame_ok sent_ok) (GOK.cons (frame_ok same_ok) (GOK.cons (frame_ok fsent_ok) .nil)))) tab_ok 8
/-- An error with its place. -/
def atE (ad : Nat → Addr) (p : Nat) (pos : Int) : Ent := .cells 99 [.v (.int .i64 pos), .v (.iface 138 (.pointer (some (ad (gl p)))))]
theorem fat_run (M : HL) (K : SV → List Ent → HL → Prop) (ad : Nat → Addr) (hS : Sents M ad) (p : Nat) (hp : p < 11) (pos : Int) (hK : K (.agg [.v (.int .i64 (101 + p : Nat)), .slc 1 1 0 1]) [atE ad p pos, .row true 3 [.int .i64] [[.int .i64 pos]]] M) :
    runF GH pf62 [.ifc 97 (.ptr 0 0 0 0), .v (.int .i64 9)] [atE ad p pos] M fun v hp2 M2 => ∃ m v' hp', Wk (llen [atE ad p pos]) m [v] hp2 [v'] hp' (K v' hp' M2) := by
  repeat ((conv => whnf); (first | refine Cnd.yes ?_ | refine Cnd.no ?_ | refine And.intro rfl ?_ | refine aom ?_ | refine Alt.std ?_ | (show Ko_ _ _ _ _; subst hKo_)))
  conv => whnf
  refine ⟨ad, p, 8, hS, hp, by decide, rfl, rfl, ?_⟩
  repeat ((conv => whnf); (first | refine Cnd.yes ?_ | refine Cnd.no ?_ | refine And.intro rfl ?_ | refine aom ?_ | refine Alt.std ?_ | (show Ko_ _ _ _ _; subst hKo_)))
  conv => whnf
  refine ⟨[0, 4], .agg [.v (.int .i64 (101 + p : Nat)), .slc 1 1 0 1], [atE ad p pos, .row true 3 [.int .i64] [[.int .i64 pos]]], ?_⟩
  repeat ((conv => whnf); (first | refine Cnd.yes ?_ | refine Cnd.no ?_ | refine And.intro rfl ?_ | refine aom ?_ | refine Alt.std ?_ | (show Ko_ _ _ _ _; subst hKo_)))
  conv => whnf
  exact hK
def fatS : Vc.Spec := fun args hp M K => ∃ (ad : Nat → Addr) (p : Nat) (pos : Int), Sents M ad ∧ p < 11 ∧ args = [.ifc 97 (.ptr 0 0 0 0), .v (.int .i64 9)] ∧ hp = [atE ad p pos] ∧ K (.agg [.v (.int .i64 (101 + p : Nat)), .slc 1 1 0 1]) [atE ad p pos, .row true 3 [.int .i64] [[.int .i64 pos]]]
theorem fat_ok : SOK Tryd.prog 62 fatS := by
  refine TOK.weaken (TOK.out (runF_eq GH_ok mixed at62.1 at62.2 pf62_eq)) fun args hp M K h => ?_
  obtain ⟨ad, p, pos, hS, hp, rfl, rfl, h⟩ := h
  exact fat_run M K ad hS p hp pos h
noncomputable def specsI : Nat → Option Vc.Trans := tget [(63, frameT sameS), (62, orT (frameT fatS) (frameT fsentS))]
noncomputable def GI : Nat → Option Vc.Trans := tabG specsI (tget tab) 8
theorem GI_ok : GOK Tryd.prog GI := tabG_ok (GOK.cons (frame_ok same_ok) (GOK.cons (orT_ok (frame_ok fat_ok) (frame_ok fsent_ok)) .nil)) tab_ok 8
theorem same_at_run (M : HL) (K : SV → List Ent → HL → Prop) (ad : Nat → Addr) (hS : Sents M ad) (p : Nat) (hp : p < 11) (pos c pos2 : Int) (o : Bool) (hK : K (.v (.bool (((101 + p : Nat) : Int) == c && decide (pos = pos2)))) [atE ad p pos, .row o 3 [.int .i64] [[.int .i64 pos2]]] M) :
    runF GI pf19 [.ifc 97 (.ptr 0 0 0 0), .agg [.v (.int .i64 c), .slc 1 1 0 1]] [atE ad p pos, .row o 3 [.int .i64] [[.int .i64 pos2]]] M fun v hp2 M2 => ∃ m v' hp', Wk (llen [atE ad p pos, .row o 3 [.int .i64] [[.int .i64 pos2]]]) m [v] hp2 [v'] hp' (K v' hp' M2) := by
  repeat ((conv => whnf); (first | refine Cnd.yes ?_ | refine Cnd.no ?_ | refine And.intro rfl ?_ | refine aom ?_ | refine Alt.std ?_ | (show Ko_ _ _ _ _; subst hKo_)))
  conv => whnf
  refine .inl ?_
  repeat ((conv => whnf); (first | refine Cnd.yes ?_ | refine Cnd.no ?_ | refine And.intro rfl ?_ | refine aom ?_ | refine Alt.std ?_ | (show Ko_ _ _ _ _; subst hKo_)))
  conv => whnf
  refine ⟨ad, p, pos, hS, hp, rfl, rfl, ?_⟩
  repeat ((conv => whnf); (first | refine Cnd.yes ?_ | refine Cnd.no ?_ | refine And.intro rfl ?_ | refine aom ?_ | refine Alt.std ?_ | (show Ko_ _ _ _ _; subst hKo_)))
  conv => whnf
  refine .inr ⟨true, o, 3, 3, [pos], [pos2], rfl, rfl, by simp, by simp, ?_⟩
  rw [show decide ([pos] = [pos2]) = decide (pos = pos2) from by simp]
  repeat ((conv => whnf); (first | refine Cnd.yes ?_ | refine Cnd.no ?_ | refine And.intro rfl ?_ | refine aom ?_ | refine Alt.std ?_ | (show Ko_ _ _ _ _; subst hKo_)))
  conv => whnf
  cases h : (((101 + p : Nat) : Int) == c) with
  | true =>
    refine Cnd.yes ?_
    repeat ((conv => whnf); (first | refine Cnd.yes ?_ | refine Cnd.no ?_ | refine And.intro rfl ?_ | refine aom ?_ | refine Alt.std ?_ | (show Ko_ _ _ _ _; subst hKo_)))
    conv => whnf
    rw [h, Bool.true_and] at hK
    refine ⟨[0, 1], .v (.bool (decide (pos = pos2))), [atE ad p pos, .row o 3 [.int .i64] [[.int .i64 pos2]]], ?_⟩
    repeat ((conv => whnf); (first | refine Cnd.yes ?_ | refine Cnd.no ?_ | refine And.intro rfl ?_ | refine aom ?_ | refine Alt.std ?_ | (show Ko_ _ _ _ _; subst hKo_)))
    conv => whnf
    exact hK
  | false =>
    refine Cnd.no ?_
    repeat ((conv => whnf); (first | refine Cnd.yes ?_ | refine Cnd.no ?_ | refine And.intro rfl ?_ | refine aom ?_ | refine Alt.std ?_ | (show Ko_ _ _ _ _; subst hKo_)))
    conv => whnf
    rw [h, Bool.false_and] at hK
    refine ⟨[0, 1], .v (.bool false), [atE ad p pos, .row o 3 [.int .i64] [[.int .i64 pos2]]], ?_⟩
    repeat ((conv => whnf); (first | refine Cnd.yes ?_ | refine Cnd.no ?_ | refine And.intro rfl ?_ | refine aom ?_ | refine Alt.std ?_ | (show Ko_ _ _ _ _; subst hKo_)))
    conv => whnf
    exact hK
theorem same_nil_run (M : HL) (K : SV → List Ent → HL → Prop) (c : Int) (hK : K (.v (.bool ((0 : Int) == c))) [] M) :
    runF GI pf19 [.v .nilIface, .agg [.v (.int .i64 c), .v (.slice none 0 0)]] [] M fun v hp2 M2 => ∃ m v' hp', Wk (llen ([] : List Ent)) m [v] hp2 [v'] hp' (K v' hp' M2) := by
  repeat ((conv => whnf); (first | refine Cnd.yes ?_ | refine Cnd.no ?_ | refine And.intro rfl ?_ | refine aom ?_ | refine Alt.std ?_ | (show Ko_ _ _ _ _; subst hKo_)))
  conv => whnf
  refine .inl ⟨rfl, rfl, ?_⟩
  repeat ((conv => whnf); (first | refine Cnd.yes ?_ | refine Cnd.no ?_ | refine And.intro rfl ?_ | refine aom ?_ | refine Alt.std ?_ | (show Ko_ _ _ _ _; subst hKo_)))
  conv => whnf
  cases h : ((0 : Int) == c) with
  | true =>
    refine Cnd.yes ?_
    repeat ((conv => whnf); (first | refine Cnd.yes ?_ | refine Cnd.no ?_ | refine And.intro rfl ?_ | refine aom ?_ | refine Alt.std ?_ | (show Ko_ _ _ _ _; subst hKo_)))
    conv => whnf
    rw [h] at hK
    refine ⟨[], .v (.bool true), [], ?_⟩
    repeat ((conv => whnf); (first | refine Cnd.yes ?_ | refine Cnd.no ?_ | refine And.intro rfl ?_ | refine aom ?_ | refine Alt.std ?_ | (show Ko_ _ _ _ _; subst hKo_)))
    conv => whnf
    exact hK
  | false =>
    refine Cnd.no ?_
    repeat ((conv => whnf); (first | refine Cnd.yes ?_ | refine Cnd.no ?_ | refine And.intro rfl ?_ | refine aom ?_ | refine Alt.std ?_ | (show Ko_ _ _ _ _; subst hKo_)))
    conv => whnf
    rw [h] at hK
    refine ⟨[], .v (.bool false), [], ?_⟩
    repeat ((conv => whnf); (first | refine Cnd.yes ?_ | refine Cnd.no ?_ | refine And.intro rfl ?_ | refine aom ?_ | refine Alt.std ?_ | (show Ko_ _ _ _ _; subst hKo_)))
    conv => whnf
    exact hK
def sameES : Vc.Spec := fun args hp M K => (∃ (ad : Nat → Addr) (p : Nat) (pos c pos2 : Int) (o : Bool), Sents M ad ∧ p < 11 ∧ args = [.ifc 97 (.ptr 0 0 0 0), .agg [.v (.int .i64 c), .slc 1 1 0 1]] ∧ hp = [atE ad p pos, .row o 3 [.int .i64] [[.int .i64 pos2]]] ∧ K (.v (.bool (((101 + p : Nat) : Int) == c && decide (pos = pos2)))) hp) ∨
  (∃ c : Int, args = [.v .nilIface, .agg [.v (.int .i64 c), .v (.slice none 0 0)]] ∧ hp = [] ∧ K (.v (.bool ((0 : Int) == c))) [])
theorem sameE_ok : SOK Tryd.prog 19 sameES := by
  refine TOK.weaken (TOK.out (runF_eq GI_ok mixed at19.1 at19.2 pf19_eq)) fun args hp M K h => ?_
  rcases h with ⟨ad, p, pos, c, pos2, o, hS, hp, rfl, rfl, h⟩ | ⟨c, rfl, rfl, h⟩
  · exact same_at_run M K ad hS p hp pos c pos2 o h
  · exact same_nil_run M K c h
end Go.Proofs.YtkfkoldaeplckaaDoor
/-
  The checker's stays, walked; its contract.
-/
namespace Go.Proofs.YtkfkoldaeplckaaDoor
open Go Go.Vc
set_option maxRecDepth 100000
set_option linter.unusedSimpArgs false
set_option linter.unusedVariables false
set_option maxHeartbeats 10000000
/-- Pairs, hart by hart, as they lie. -/
structure PrIn (M : HL) (P : List Value) (H : Hs) : Prop where
  n : P.length = H.length
  r : ∀ h, h < H.length → Vc.RowsIn M 3 [.int .i64] (P.getD h nilV) ((pairsL (H.getD h default).2).map irow)
/-- Places, hart by hart, as they lie. -/
structure PosIn (N : HL) (Q : List Value) (T : List (List Int)) : Prop where
  n : Q.length = T.length
  r : ∀ h, h < T.length → OwnIn N 3 [.int .i64] (Q.getD h nilV) ((T.getD h []).map irow)
  s : ∀ h g k, h < T.length → g < T.length → h ≠ g → blkOf (Q.getD h nilV) = some k → blkOf (Q.getD g nilV) ≠ some k
def Fits (H : Hs) (T : List (List Int)) : Prop := T.length = H.length ∧ ∀ h, h < H.length → (T.getD h []).length = (H.getD h default).2.length
def stayB (H : Hs) (T : List (List Int)) (r : Rf) (p : Nat) (b : Nat) : Bool :=
  let l := (H.getD r.1.toNat default).2
  let t := (T.getD r.1.toNat []).getD b 0
  decide (r.2 < b) && (decide (0 ≤ t) && decide (t < p) && decide (withN l (pairsL l) r.2.toNat b (l.getD r.2.toNat default) (l.getD b default) ≠ 0))
theorem stayB_eq (H : Hs) (T : List (List Int)) (r : Rf) (p : Nat) {a0 : Nat} (h : r.2 = a0) (b : Nat) : stayB H T r p b = (decide ((a0 : Int) < b) && (decide (0 ≤ (T.getD r.1.toNat []).getD b 0) && decide ((T.getD r.1.toNat []).getD b 0 < p) &&
    decide (withN (H.getD r.1.toNat default).2 (pairsL (H.getD r.1.toNat default).2) a0 b ((H.getD r.1.toNat default).2.getD a0 default) ((H.getD r.1.toNat default).2.getD b default) ≠ 0))) := by
  unfold stayB
  rw [h, Int.toNat_natCast]
def stayN (H : Hs) (T : List (List Int)) (O : List Rf) (p : Nat) : Bool :=
  anyB (H.getD (O.getD p (0, 0)).1.toNat default).2.length (stayB H T (O.getD p (0, 0)) p)
theorem vcell (Q : List Value) {j : Nat} (hj : j < Q.length) : cellAt (Q.map vrow) j 0 = Q.getD j nilV := by
  simp [cellAt, List.getD, hj, vrow]
noncomputable def specsO1 : Nat → Option Vc.Trans := tget [(58, openAtG (openAtG (frameT withS) 0) 1)]
noncomputable def GO1 : Nat → Option Vc.Trans := tabG specsO1 (tget tab) 5
theorem GO1_ok : GOK Tryd.prog GO1 := tabG_ok (GOK.cons (openAtG_ok (openAtG_ok (frame_ok with_ok) 0) 1) .nil) tab_ok 5
theorem stays_run (M : HL) (K : SV → List Ent → HL → Prop) (ad : Nat → Addr) (hS : Sents M ad) (eh eo eb : TypeId) (H : Hs) (O : List Rf) (P Q : List Value) (r1 r2 : Nat) (N1 N2 : HL) (bl : List Int) (T : List (List Int))
    (hH : HIn M H) (hF : ∀ p ∈ H, ∀ x ∈ p.2, Fit x) (hc : ∀ p ∈ H, p.2.length ≤ 1000) (hO : O.length ≤ 1000000) (hr : ∀ r ∈ O, RefOK H r) (hP : PrIn M P H) (hQ : PosIn N2 Q T) (hT : Fits H T)
    (hK1 : (∀ p, p < O.length → stayN H T O p = false) → K (.v .nilIface) (chk true eh eo eb H O P Q r1 r2 N1 N2 bl) M)
    (hK2 : ∀ p, p < O.length → stayN H T O p = true → (∀ q, q < p → stayN H T O q = false) → K (.ifc 97 (.ptr 9 0 0 0)) (chk true eh eo eb H O P Q r1 r2 N1 N2 bl ++ [atE ad 9 p]) M) :
    runF GO1 pf36 [.ptr 0 0 0 0] (chk true eh eo eb H O P Q r1 r2 N1 N2 bl) M fun v hp2 M2 => ∃ m v' hp', Wk (llen (chk true eh eo eb H O P Q r1 r2 N1 N2 bl)) m [v] hp2 [v'] hp' (K v' hp' M2) := by
  repeat ((conv => whnf); (first | refine Cnd.yes ?_ | refine Cnd.no ?_ | refine And.intro rfl ?_ | refine aom ?_ | refine Alt.std ?_ | (show Ko_ _ _ _ _; subst hKo_) | refine ctt ?_ | refine cff ?_))
  conv => whnf
  refine ⟨InvS 78 (fun s : Nat => O.length - s) (fun s : Nat => s ≤ O.length ∧ ∀ q, q < s → stayN H T O q = false) (fun s : Nat => [(0, .ptr 0 0 0 0), (2, .v .nilIface), (11, .slc 2 2 0 O.length), (12, .v (.int .i64 O.length)), (13, .v (.int .i64 s))]) (fun s : Nat => chk true eh eo eb H O P Q r1 r2 N1 N2 bl) M, ⟨(fun s : Nat => O.length - s) 0, [0, 1, 2, 3, 4, 5, 6, 7, 8], tmk 78 0 ((fun s : Nat => [(0, .ptr 0 0 0 0), (2, .v .nilIface), (11, .slc 2 2 0 O.length), (12, .v (.int .i64 O.length)), (13, .v (.int .i64 s))]) 0), (fun s : Nat => chk true eh eo eb H O P Q r1 r2 N1 N2 bl) 0, ?_⟩, ?_⟩
  · repeat ((conv => whnf); (first | refine Cnd.yes ?_ | refine Cnd.no ?_ | refine And.intro rfl ?_ | refine aom ?_ | refine Alt.std ?_ | (show Ko_ _ _ _ _; subst hKo_)))
    conv => whnf
    exact ⟨0, ⟨Nat.zero_le _, fun q hq => by omega⟩, rfl, rfl, (tmkK_eq _ _ _ _).mpr rfl, rfl⟩
  · rintro Ko_ hKo_ cnt tm hp M1 ⟨p, hC_, rfl, rfl, htm, hhp_⟩
    replace hC_ : p ≤ O.length ∧ ∀ q, q < p → stayN H T O q = false := hC_
    obtain ⟨hpp,hall⟩ := hC_
    replace htm : tmkK 78 0 [(0, .ptr 0 0 0 0), (2, .v .nilIface), (11, .slc 2 2 0 O.length), (12, .v (.int .i64 O.length)), (13, .v (.int .i64 p))] (fun l => tm = l) := htm
    conv at htm => whnf
    subst htm
    replace hhp_ : hp = chk true eh eo eb H O P Q r1 r2 N1 N2 bl := hhp_
    subst hhp_
    repeat ((conv => whnf); (first | refine Cnd.yes ?_ | refine Cnd.no ?_ | refine And.intro rfl ?_ | refine aom ?_ | refine Alt.std ?_ | (show Ko_ _ _ _ _; subst hKo_) | refine ctt ?_ | refine cff ?_))
    conv => whnf
    refine Cnd.mk (fun hlt => ?_) fun hge => ?_
    · have hpn : p < O.length := by have := of_decide_eq_true hlt; omega
      have e0 : toI (cellAt (O.map rrow) (0 + (p : Int).toNat) 0) = (O.getD p (0, 0)).1 := by rw [Nat.zero_add, Int.toNat_natCast]; exact rcell0 O hpn
      have e1 : toI (cellAt (O.map rrow) (0 + (p : Int).toNat) (0 + 1)) = (O.getD p (0, 0)).2 := by rw [Nat.zero_add, Int.toNat_natCast]; exact rcell1 O hpn
      have hro := hr (O.getD p (0, 0)) (by simp [List.getD, hpn])
      obtain ⟨bad, hbad⟩ : ∃ bad, stayN H T O p = bad := ⟨_, rfl⟩
      have hbad' := hbad
      unfold stayN at hbad'
      generalize O.getD p (0, 0) = r at *
      obtain ⟨h0, h1, h2, h3⟩ := hro
      have hin : r.1.toNat < H.length := by omega
      have hmem : H.getD r.1.toNat default ∈ H := by simp [List.getD, hin]
      obtain ⟨e1', hR⟩ := hH.r _ hmem
      have hD := hH.d _ hmem
      have hFl := hF _ hmem
      have hcl := hc _ hmem
      have hQr := (hQ.r r.1.toNat (by rw [hT.1]; exact hin)).rows
      have hPr := hP.r r.1.toNat hin
      have hTl := hT.2 r.1.toNat hin
      have hQn : r.1.toNat < Q.length := by rw [hQ.n, hT.1]; exact hin
      have hPn : r.1.toNat < P.length := by rw [hP.n]; exact hin
      have c0 : cellAt (H.map hrow) (0 + r.1.toNat) 0 = (H.getD r.1.toNat default).1 := by rw [Nat.zero_add, hcell H hin]
      have c1 : cellAt (Q.map vrow) (0 + r.1.toNat) 0 = Q.getD r.1.toNat nilV := by rw [Nat.zero_add, vcell Q hQn]
      have c2 : cellAt (P.map vrow) (0 + r.1.toNat) 0 = P.getD r.1.toNat nilV := by rw [Nat.zero_add, vcell P hPn]
      have hyl := hR.len
      have hql := hQr.len
      have hpl := hPr.len
      rw [List.length_map] at hyl hql hpl
      repeat ((conv => whnf); (first | refine Cnd.yes ?_ | refine Cnd.no ?_ | refine And.intro rfl ?_ | refine aom ?_ | refine Alt.std ?_ | (show Ko_ _ _ _ _; subst hKo_) | refine ctt ?_ | refine cff ?_))
      conv => whnf
      rw [e0, e1]
      repeat ((conv => whnf); (first | refine Cnd.yes ?_ | refine Cnd.no ?_ | refine And.intro rfl ?_ | refine aom ?_ | refine Alt.std ?_ | (show Ko_ _ _ _ _; subst hKo_) | refine ctt ?_ | refine cff ?_))
      conv => whnf
      rw [c0]
      repeat ((conv => whnf); (first | refine Cnd.yes ?_ | refine Cnd.no ?_ | refine And.intro rfl ?_ | refine aom ?_ | refine Alt.std ?_ | (show Ko_ _ _ _ _; subst hKo_) | refine ctt ?_ | refine cff ?_))
      conv => whnf
      rw [c1]
      repeat ((conv => whnf); (first | refine Cnd.yes ?_ | refine Cnd.no ?_ | refine And.intro rfl ?_ | refine aom ?_ | refine Alt.std ?_ | (show Ko_ _ _ _ _; subst hKo_) | refine ctt ?_ | refine cff ?_))
      conv => whnf
      obtain ⟨a0, ha0⟩ : ∃ a0 : Nat, r.2 = a0 := ⟨r.2.toNat, by omega⟩
      have e2 : IntKind.i64.wrap (r.2 + 1) = ((a0 + 1 : Nat) : Int) := by rw [IntKind.wrap_i64]; omega
      have hstep := stayB_eq H T r p (a0 := a0) ha0
      generalize H.getD r.1.toNat default = pl at *
      obtain ⟨y, l⟩ := pl
      generalize T.getD r.1.toNat [] = t at *
      generalize Q.getD r.1.toNat nilV = qv at *
      generalize P.getD r.1.toNat nilV = pv at *
      dsimp only at *
      rw [e2]
      have ha1 : a0 < l.length := by omega
      refine ⟨InvS 78 (fun s : Nat => l.length - s) (fun s : Nat => (a0 < s ∧ s ≤ l.length) ∧ ∀ q, q < s → stayB H T r p q = false) (fun s : Nat => [(0, .ptr 0 0 0 0), (2, .v .nilIface), (3, .v (.int .i64 p)), (4, .ptr 9 0 0 0), (5, .rsl y), (6, .rsl qv), (7, .v (.int .i64 s)), (11, .slc 2 2 0 O.length), (12, .v (.int .i64 O.length)), (13, .v (.int .i64 p))]) (fun s : Nat => chk true eh eo eb H O P Q r1 r2 N1 N2 bl ++ [Ent.cells 41 [.v (.int .i64 r.1), .v (.int .i64 r.2)]]) M1, ⟨(fun s : Nat => l.length - s) (a0 + 1), [0, 1, 2, 3, 4, 5, 6, 7, 8, 9], tmk 78 0 ((fun s : Nat => [(0, .ptr 0 0 0 0), (2, .v .nilIface), (3, .v (.int .i64 p)), (4, .ptr 9 0 0 0), (5, .rsl y), (6, .rsl qv), (7, .v (.int .i64 s)), (11, .slc 2 2 0 O.length), (12, .v (.int .i64 O.length)), (13, .v (.int .i64 p))]) (a0 + 1)), (fun s : Nat => chk true eh eo eb H O P Q r1 r2 N1 N2 bl ++ [Ent.cells 41 [.v (.int .i64 r.1), .v (.int .i64 r.2)]]) (a0 + 1), ?_⟩, ?_⟩
      · repeat ((conv => whnf); (first | refine Cnd.yes ?_ | refine Cnd.no ?_ | refine And.intro rfl ?_ | refine aom ?_ | refine Alt.std ?_ | (show Ko_ _ _ _ _; subst hKo_)))
        conv => whnf
        exact ⟨(a0 + 1), ⟨⟨by omega, by omega⟩, fun q hq => by rw [hstep q, decide_eq_false (by omega), Bool.false_and]⟩, rfl, rfl, (tmkK_eq _ _ _ _).mpr rfl, rfl⟩
      · rintro Ko_ hKo_ cnt tm hp M1 ⟨b, hC_, rfl, rfl, htm, hhp_⟩
        replace hC_ : (a0 < b ∧ b ≤ l.length) ∧ ∀ q, q < b → stayB H T r p q = false := hC_
        obtain ⟨⟨hb0,hb1⟩,hbl⟩ := hC_
        replace htm : tmkK 78 0 [(0, .ptr 0 0 0 0), (2, .v .nilIface), (3, .v (.int .i64 p)), (4, .ptr 9 0 0 0), (5, .rsl y), (6, .rsl qv), (7, .v (.int .i64 b)), (11, .slc 2 2 0 O.length), (12, .v (.int .i64 O.length)), (13, .v (.int .i64 p))] (fun l => tm = l) := htm
        conv at htm => whnf
        subst htm
        replace hhp_ : hp = chk true eh eo eb H O P Q r1 r2 N1 N2 bl ++ [Ent.cells 41 [.v (.int .i64 r.1), .v (.int .i64 r.2)]] := hhp_
        subst hhp_
        repeat ((conv => whnf); (first | refine Cnd.yes ?_ | refine Cnd.no ?_ | refine And.intro rfl ?_ | refine aom ?_ | refine Alt.std ?_ | (show Ko_ _ _ _ _; subst hKo_) | refine ctt ?_ | refine cff ?_))
        conv => whnf
        rw [hyl]
        repeat ((conv => whnf); (first | refine Cnd.yes ?_ | refine Cnd.no ?_ | refine And.intro rfl ?_ | refine aom ?_ | refine Alt.std ?_ | (show Ko_ _ _ _ _; subst hKo_) | refine ctt ?_ | refine cff ?_))
        conv => whnf
        refine Cnd.mk (fun hlt2 => ?_) fun hge2 => ?_
        · have hbn : b < l.length := by have := of_decide_eq_true hlt2; omega
          have hsb := hstep b
          rw [decide_eq_true (show (a0 : Int) < b by omega), Bool.true_and] at hsb
          have et : toI (cellAt (t.map irow) (b : Int).toNat 0) = t.getD b 0 := by have := toI_i (l := t) (i := b) (by omega); rwa [Nat.zero_add] at this
          repeat ((conv => whnf); (first | refine Cnd.yes ?_ | refine Cnd.no ?_ | refine And.intro rfl ?_ | refine aom ?_ | refine Alt.std ?_ | (show Ko_ _ _ _ _; subst hKo_) | refine ctt ?_ | refine cff ?_))
          conv => whnf
          refine ⟨3, [.int .i64], t.map irow, .inr (.inl hQr), ?_⟩
          repeat ((conv => whnf); (first | refine Cnd.yes ?_ | refine Cnd.no ?_ | refine And.intro rfl ?_ | refine aom ?_ | refine Alt.std ?_ | (show Ko_ _ _ _ _; subst hKo_) | refine ctt ?_ | refine cff ?_))
          conv => whnf
          rw [et]
          by_cases t1 : t.getD b 0 < 0
          · have hsf : stayB H T r p b = false := by rw [hsb, decide_eq_false (by omega), Bool.false_and, Bool.false_and]
            repeat ((conv => whnf); (first | refine Cnd.yes ?_ | refine Cnd.no ?_ | refine And.intro rfl ?_ | refine aom ?_ | refine Alt.std ?_ | (show Ko_ _ _ _ _; subst hKo_) | refine ctt ?_ | refine cff ?_))
            conv => whnf
            (refine ⟨(fun s : Nat => l.length - s) (b + 1), [0, 1, 2, 3, 4, 5, 6, 7, 8, 9], tmk 78 0 ((fun s : Nat => [(0, .ptr 0 0 0 0), (2, .v .nilIface), (3, .v (.int .i64 p)), (4, .ptr 9 0 0 0), (5, .rsl y), (6, .rsl qv), (7, .v (.int .i64 s)), (11, .slc 2 2 0 O.length), (12, .v (.int .i64 O.length)), (13, .v (.int .i64 p))]) (b + 1)), (fun s : Nat => chk true eh eo eb H O P Q r1 r2 N1 N2 bl ++ [Ent.cells 41 [.v (.int .i64 r.1), .v (.int .i64 r.2)]]) (b + 1), ?_, ?_⟩; focus (first | (simp only []; omega) | omega))
            repeat ((conv => whnf); (first | refine Cnd.yes ?_ | refine Cnd.no ?_ | refine And.intro rfl ?_ | refine aom ?_ | refine Alt.std ?_ | (show Ko_ _ _ _ _; subst hKo_)))
            conv => whnf
            exact ⟨b + 1, ⟨⟨by omega, hbn⟩, fun q hq => by rcases Nat.lt_succ_iff_lt_or_eq.1 hq with h | h; exact hbl q h; rw [h]; exact hsf⟩, rfl, rfl, (tmkK_eq _ _ _ _).mpr rfl, rfl⟩
          by_cases t2 : t.getD b 0 < p
          case neg =>
            have hsf : stayB H T r p b = false := by rw [hsb, decide_eq_false t2, Bool.and_false, Bool.false_and]
            repeat ((conv => whnf); (first | refine Cnd.yes ?_ | refine Cnd.no ?_ | refine And.intro rfl ?_ | refine aom ?_ | refine Alt.std ?_ | (show Ko_ _ _ _ _; subst hKo_) | refine ctt ?_ | refine cff ?_))
            conv => whnf
            refine ⟨3, [.int .i64], t.map irow, .inr (.inl hQr), ?_⟩
            repeat ((conv => whnf); (first | refine Cnd.yes ?_ | refine Cnd.no ?_ | refine And.intro rfl ?_ | refine aom ?_ | refine Alt.std ?_ | (show Ko_ _ _ _ _; subst hKo_) | refine ctt ?_ | refine cff ?_))
            conv => whnf
            rw [et]
            repeat ((conv => whnf); (first | refine Cnd.yes ?_ | refine Cnd.no ?_ | refine And.intro rfl ?_ | refine aom ?_ | refine Alt.std ?_ | (show Ko_ _ _ _ _; subst hKo_) | refine ctt ?_ | refine cff ?_))
            conv => whnf
            (refine ⟨(fun s : Nat => l.length - s) (b + 1), [0, 1, 2, 3, 4, 5, 6, 7, 8, 9], tmk 78 0 ((fun s : Nat => [(0, .ptr 0 0 0 0), (2, .v .nilIface), (3, .v (.int .i64 p)), (4, .ptr 9 0 0 0), (5, .rsl y), (6, .rsl qv), (7, .v (.int .i64 s)), (11, .slc 2 2 0 O.length), (12, .v (.int .i64 O.length)), (13, .v (.int .i64 p))]) (b + 1)), (fun s : Nat => chk true eh eo eb H O P Q r1 r2 N1 N2 bl ++ [Ent.cells 41 [.v (.int .i64 r.1), .v (.int .i64 r.2)]]) (b + 1), ?_, ?_⟩; focus (first | (simp only []; omega) | omega))
            repeat ((conv => whnf); (first | refine Cnd.yes ?_ | refine Cnd.no ?_ | refine And.intro rfl ?_ | refine aom ?_ | refine Alt.std ?_ | (show Ko_ _ _ _ _; subst hKo_)))
            conv => whnf
            exact ⟨b + 1, ⟨⟨by omega, hbn⟩, fun q hq => by rcases Nat.lt_succ_iff_lt_or_eq.1 hq with h | h; exact hbl q h; rw [h]; exact hsf⟩, rfl, rfl, (tmkK_eq _ _ _ _).mpr rfl, rfl⟩
          rw [decide_eq_true (by omega), decide_eq_true t2, Bool.true_and, Bool.true_and] at hsb
          repeat ((conv => whnf); (first | refine Cnd.yes ?_ | refine Cnd.no ?_ | refine And.intro rfl ?_ | refine aom ?_ | refine Alt.std ?_ | (show Ko_ _ _ _ _; subst hKo_) | refine ctt ?_ | refine cff ?_))
          conv => whnf
          refine ⟨3, [.int .i64], t.map irow, .inr (.inl hQr), ?_⟩
          repeat ((conv => whnf); (first | refine Cnd.yes ?_ | refine Cnd.no ?_ | refine And.intro rfl ?_ | refine aom ?_ | refine Alt.std ?_ | (show Ko_ _ _ _ _; subst hKo_) | refine ctt ?_ | refine cff ?_))
          conv => whnf
          rw [et]
          repeat ((conv => whnf); (first | refine Cnd.yes ?_ | refine Cnd.no ?_ | refine And.intro rfl ?_ | refine aom ?_ | refine Alt.std ?_ | (show Ko_ _ _ _ _; subst hKo_) | refine ctt ?_ | refine cff ?_))
          conv => whnf
          rw [c2]
          repeat ((conv => whnf); (first | refine Cnd.yes ?_ | refine Cnd.no ?_ | refine And.intro rfl ?_ | refine aom ?_ | refine Alt.std ?_ | (show Ko_ _ _ _ _; subst hKo_) | refine ctt ?_ | refine cff ?_))
          conv => whnf
          intro Mr hMr
          repeat ((conv => whnf); (first | refine Cnd.yes ?_ | refine Cnd.no ?_ | refine And.intro rfl ?_ | refine aom ?_ | refine Alt.std ?_ | (show Ko_ _ _ _ _; subst hKo_) | refine ctt ?_ | refine cff ?_))
          conv => whnf
          have hpln : (pairsL l).length = l.length := by simp [pairsL]
          refine ⟨pv, 3, [.int .i64], (pairsL l).map irow, rfl, hPr.mono hMr, ?_⟩
          repeat ((conv => whnf); (first | refine Cnd.yes ?_ | refine Cnd.no ?_ | refine And.intro rfl ?_ | refine aom ?_ | refine Alt.std ?_ | (show Ko_ _ _ _ _; subst hKo_) | refine ctt ?_ | refine cff ?_))
          conv => whnf
          refine ⟨y, e1', ock, l.map orow, rfl, hR.mono hMr, ?_⟩
          repeat ((conv => whnf); (first | refine Cnd.yes ?_ | refine Cnd.no ?_ | refine And.intro rfl ?_ | refine aom ?_ | refine Alt.std ?_ | (show Ko_ _ _ _ _; subst hKo_) | refine ctt ?_ | refine cff ?_))
          conv => whnf
          refine ⟨false, e1', l, false, pairsL l, a0, b, by simp only [List.length_map, ha0, hpln]; rfl, rfl, by omega, hbn, hpln, hcl, hFl, hD.mono hMr, ?_⟩
          by_cases hw : withN l (pairsL l) a0 b (l.getD a0 default) (l.getD b default) = 0
          · have hsf : stayB H T r p b = false := by rw [hsb, decide_eq_false (by simpa using hw)]
            rw [hw]
            repeat ((conv => whnf); (first | refine Cnd.yes ?_ | refine Cnd.no ?_ | refine And.intro rfl ?_ | refine aom ?_ | refine Alt.std ?_ | (show Ko_ _ _ _ _; subst hKo_) | refine ctt ?_ | refine cff ?_))
            conv => whnf
            (refine ⟨(fun s : Nat => l.length - s) (b + 1), [0, 1, 2, 3, 4, 5, 6, 7, 8, 9], tmk 78 0 ((fun s : Nat => [(0, .ptr 0 0 0 0), (2, .v .nilIface), (3, .v (.int .i64 p)), (4, .ptr 9 0 0 0), (5, .rsl y), (6, .rsl qv), (7, .v (.int .i64 s)), (11, .slc 2 2 0 O.length), (12, .v (.int .i64 O.length)), (13, .v (.int .i64 p))]) (b + 1)), (fun s : Nat => chk true eh eo eb H O P Q r1 r2 N1 N2 bl ++ [Ent.cells 41 [.v (.int .i64 r.1), .v (.int .i64 r.2)]]) (b + 1), ?_, ?_⟩; focus (first | (simp only []; omega) | omega))
            repeat ((conv => whnf); (first | refine Cnd.yes ?_ | refine Cnd.no ?_ | refine And.intro rfl ?_ | refine aom ?_ | refine Alt.std ?_ | (show Ko_ _ _ _ _; subst hKo_)))
            conv => whnf
            exact ⟨b + 1, ⟨⟨by omega, hbn⟩, fun q hq => by rcases Nat.lt_succ_iff_lt_or_eq.1 hq with h | h; exact hbl q h; rw [h]; exact hsf⟩, rfl, rfl, (tmkK_eq _ _ _ _).mpr rfl, rfl⟩
          · have hst : bad = true := by rw [← hbad']; exact anyB_true hbn (by rw [hsb]; exact decide_eq_true hw)
            rw [hst] at hbad
            repeat ((conv => whnf); (first | refine Cnd.yes ?_ | refine Cnd.no ?_ | refine And.intro rfl ?_ | refine aom ?_ | refine Alt.std ?_ | (show Ko_ _ _ _ _; subst hKo_) | refine ctt ?_ | refine cff ?_))
            conv => whnf
            refine ⟨_, hS.g 2 (by omega), ?_⟩
            repeat ((conv => whnf); (first | refine Cnd.yes ?_ | refine Cnd.no ?_ | refine And.intro rfl ?_ | refine aom ?_ | refine Alt.std ?_ | (show Ko_ _ _ _ _; subst hKo_) | refine ctt ?_ | refine cff ?_))
            conv => whnf
            refine ⟨[0, 1, 2, 3, 4, 5, 6, 7, 8, 12], .ifc 97 (.ptr 9 0 0 0), chk true eh eo eb H O P Q r1 r2 N1 N2 bl ++ [atE ad 9 p], ?_⟩
            repeat ((conv => whnf); (first | refine Cnd.yes ?_ | refine Cnd.no ?_ | refine And.intro rfl ?_ | refine aom ?_ | refine Alt.std ?_ | (show Ko_ _ _ _ _; subst hKo_)))
            conv => whnf
            exact hK2 p hpn hbad hall
        · obtain rfl : b = l.length := by have := of_decide_eq_false hge2; omega
          have hno : bad = false := by rw [← hbad']; exact anyB_false fun q hq => hbl q hq
          rw [hno] at hbad
          repeat ((conv => whnf); (first | refine Cnd.yes ?_ | refine Cnd.no ?_ | refine And.intro rfl ?_ | refine aom ?_ | refine Alt.std ?_ | (show Ko_ _ _ _ _; subst hKo_) | refine ctt ?_ | refine cff ?_))
          conv => whnf
          (refine ⟨(fun s : Nat => O.length - s) (p + 1), [0, 1, 2, 3, 4, 5, 6, 7, 8], tmk 78 0 ((fun s : Nat => [(0, .ptr 0 0 0 0), (2, .v .nilIface), (11, .slc 2 2 0 O.length), (12, .v (.int .i64 O.length)), (13, .v (.int .i64 s))]) (p + 1)), (fun s : Nat => chk true eh eo eb H O P Q r1 r2 N1 N2 bl) (p + 1), ?_, ?_⟩; focus (first | (simp only []; omega) | omega))
          repeat ((conv => whnf); (first | refine Cnd.yes ?_ | refine Cnd.no ?_ | refine And.intro rfl ?_ | refine aom ?_ | refine Alt.std ?_ | (show Ko_ _ _ _ _; subst hKo_)))
          conv => whnf
          exact ⟨p + 1, ⟨hpn, fun q hq => by rcases Nat.lt_succ_iff_lt_or_eq.1 hq with h | h; exact hall q h; rw [h]; exact hbad⟩, rfl, rfl, (tmkK_eq _ _ _ _).mpr rfl, rfl⟩
    · obtain rfl : p = O.length := by have := of_decide_eq_false hge; omega
      repeat ((conv => whnf); (first | refine Cnd.yes ?_ | refine Cnd.no ?_ | refine And.intro rfl ?_ | refine aom ?_ | refine Alt.std ?_ | (show Ko_ _ _ _ _; subst hKo_) | refine ctt ?_ | refine cff ?_))
      conv => whnf
      refine ⟨[0, 1, 2, 3, 4, 5, 6, 7, 8], .v .nilIface, chk true eh eo eb H O P Q r1 r2 N1 N2 bl, ?_⟩
      repeat ((conv => whnf); (first | refine Cnd.yes ?_ | refine Cnd.no ?_ | refine And.intro rfl ?_ | refine aom ?_ | refine Alt.std ?_ | (show Ko_ _ _ _ _; subst hKo_)))
      conv => whnf
      exact hK1 hall
/-- The first place that is so, or none. -/
inductive FirstAt (f : Nat → Bool) (n : Nat) : Option Nat → Prop where
  | no (h : ∀ p, p < n → f p = false) : FirstAt f n none
  | yes (p : Nat) (hp : p < n) (h : f p = true) (ha : ∀ q, q < p → f q = false) : FirstAt f n (some p)
/-- What is told of a place. -/
def errV : Option Nat → SV
  | none => .v .nilIface
  | some _ => .ifc 97 (.ptr 9 0 0 0)
def errH (ad : Nat → Addr) (c : Nat) : Option Nat → List Ent
  | none => []
  | some p => [atE ad c p]
def staysS : Vc.Spec := fun args hp M K => ∃ (ad : Nat → Addr) (eh eo eb : TypeId) (H : Hs) (O : List Rf) (P Q : List Value) (r1 r2 : Nat) (N1 N2 : HL) (bl : List Int) (T : List (List Int)), args = [.ptr 0 0 0 0] ∧ hp = chk true eh eo eb H O P Q r1 r2 N1 N2 bl ∧ Sents M ad ∧ HIn M H ∧ (∀ p ∈ H, ∀ x ∈ p.2, Fit x) ∧ (∀ p ∈ H, p.2.length ≤ 1000) ∧ O.length ≤ 1000000 ∧ (∀ r ∈ O, RefOK H r) ∧ PrIn M P H ∧ PosIn N2 Q T ∧ Fits H T ∧
  ∀ w, FirstAt (stayN H T O) O.length w → K (errV w) (chk true eh eo eb H O P Q r1 r2 N1 N2 bl ++ errH ad 9 w)
theorem stays_ok : SOK Tryd.prog 36 staysS := by
  refine TOK.weaken (TOK.out (runF_eq GO1_ok mixed at36.1 at36.2 pf36_eq)) fun args hp M K h => ?_
  obtain ⟨ad, eh, eo, eb, H, O, P, Q, r1, r2, N1, N2, bl, T, rfl, rfl, h1, h2, h3, h4, h5, h6, h7, h8, h9, h10⟩ := h
  exact stays_run M K ad h1 eh eo eb H O P Q r1 r2 N1 N2 bl T h2 h3 h4 h5 h6 h7 h8 h9 (fun h => by have := h10 none (.no h); rwa [errH, List.append_nil] at this) (fun p hp h ha => h10 (some p) (.yes p hp h ha))
end Go.Proofs.YtkfkoldaeplckaaDoor
/-
  The first bytes; the checker's values, walked; its contract.
-/
namespace Go.Proofs.YtkfkoldaeplckaaDoor
open Go Go.Vc
set_option maxRecDepth 100000
set_option linter.unusedSimpArgs false
set_option linter.unusedVariables false
set_option maxHeartbeats 10000000
/-- What lies first at an address. -/
def firstN (bl : List Int) (a : Int) : Int := if a < bl.length then bl.getD a.toNat 0 else 0
theorem fst_runT (M : HL) (K : SV → List Ent → HL → Prop) (eb : TypeId) (bl : List Int) (a : Int) (h0 : 0 ≤ a) (ha : a < 4294967296) (hK : K (.v (.int .u8 (firstN bl a))) [cellsB true 72 [.slc 1 1 0 bl.length], .row true eb [.int .u8] (bl.map brow)] M) :
    runF G0 pf33 [.v (.int .u32 a), .ptr 0 0 0 0] [cellsB true 72 [.slc 1 1 0 bl.length], .row true eb [.int .u8] (bl.map brow)] M fun v hp2 M2 => ∃ m v' hp', Wk (llen [cellsB true 72 [.slc 1 1 0 bl.length], .row true eb [.int .u8] (bl.map brow)]) m [v] hp2 [v'] hp' (K v' hp' M2) := by
  have e1 : IntKind.i64.wrap a = a := by rw [IntKind.wrap_i64]; omega
  unfold firstN at hK
  by_cases h : a < bl.length
  · rw [if_pos h] at hK
    have ec : toI (cellAt (bl.map brow) (0 + a.toNat) 0) = bl.getD a.toNat 0 := by
      rw [Nat.zero_add]
      simp [cellAt, List.getD, show a.toNat < bl.length by omega, brow, toI]
    repeat ((conv => whnf); (first | refine Cnd.yes ?_ | refine Cnd.no ?_ | refine And.intro rfl ?_ | refine aom ?_ | refine Alt.std ?_ | (show Ko_ _ _ _ _; subst hKo_) | refine ctt ?_ | refine cff ?_))
    conv => whnf
    rw [ec]
    refine ⟨[0, 1], .v (.int .u8 (bl.getD a.toNat 0)), [cellsB true 72 [.slc 1 1 0 bl.length], .row true eb [.int .u8] (bl.map brow)], ?_⟩
    repeat ((conv => whnf); (first | refine Cnd.yes ?_ | refine Cnd.no ?_ | refine And.intro rfl ?_ | refine aom ?_ | refine Alt.std ?_ | (show Ko_ _ _ _ _; subst hKo_)))
    conv => whnf
    exact hK
  · rw [if_neg h] at hK
    repeat ((conv => whnf); (first | refine Cnd.yes ?_ | refine Cnd.no ?_ | refine And.intro rfl ?_ | refine aom ?_ | refine Alt.std ?_ | (show Ko_ _ _ _ _; subst hKo_) | refine ctt ?_ | refine cff ?_))
    conv => whnf
    refine ⟨[0, 1], .v (.int .u8 0), [cellsB true 72 [.slc 1 1 0 bl.length], .row true eb [.int .u8] (bl.map brow)], ?_⟩
    repeat ((conv => whnf); (first | refine Cnd.yes ?_ | refine Cnd.no ?_ | refine And.intro rfl ?_ | refine aom ?_ | refine Alt.std ?_ | (show Ko_ _ _ _ _; subst hKo_)))
    conv => whnf
    exact hK
theorem fst_runF (M : HL) (K : SV → List Ent → HL → Prop) (eb : TypeId) (bl : List Int) (a : Int) (h0 : 0 ≤ a) (ha : a < 4294967296) (hK : K (.v (.int .u8 (firstN bl a))) [cellsB false 72 [.slc 1 1 0 bl.length], .row false eb [.int .u8] (bl.map brow)] M) :
    runF G0 pf33 [.v (.int .u32 a), .ptr 0 0 0 0] [cellsB false 72 [.slc 1 1 0 bl.length], .row false eb [.int .u8] (bl.map brow)] M fun v hp2 M2 => ∃ m v' hp', Wk (llen [cellsB false 72 [.slc 1 1 0 bl.length], .row false eb [.int .u8] (bl.map brow)]) m [v] hp2 [v'] hp' (K v' hp' M2) := by
  have e1 : IntKind.i64.wrap a = a := by rw [IntKind.wrap_i64]; omega
  unfold firstN at hK
  by_cases h : a < bl.length
  · rw [if_pos h] at hK
    have ec : toI (cellAt (bl.map brow) (0 + a.toNat) 0) = bl.getD a.toNat 0 := by
      rw [Nat.zero_add]
      simp [cellAt, List.getD, show a.toNat < bl.length by omega, brow, toI]
    repeat ((conv => whnf); (first | refine Cnd.yes ?_ | refine Cnd.no ?_ | refine And.intro rfl ?_ | refine aom ?_ | refine Alt.std ?_ | (show Ko_ _ _ _ _; subst hKo_) | refine ctt ?_ | refine cff ?_))
    conv => whnf
    rw [ec]
    refine ⟨[0, 1], .v (.int .u8 (bl.getD a.toNat 0)), [cellsB false 72 [.slc 1 1 0 bl.length], .row false eb [.int .u8] (bl.map brow)], ?_⟩
    repeat ((conv => whnf); (first | refine Cnd.yes ?_ | refine Cnd.no ?_ | refine And.intro rfl ?_ | refine aom ?_ | refine Alt.std ?_ | (show Ko_ _ _ _ _; subst hKo_)))
    conv => whnf
    exact hK
  · rw [if_neg h] at hK
    repeat ((conv => whnf); (first | refine Cnd.yes ?_ | refine Cnd.no ?_ | refine And.intro rfl ?_ | refine aom ?_ | refine Alt.std ?_ | (show Ko_ _ _ _ _; subst hKo_) | refine ctt ?_ | refine cff ?_))
    conv => whnf
    refine ⟨[0, 1], .v (.int .u8 0), [cellsB false 72 [.slc 1 1 0 bl.length], .row false eb [.int .u8] (bl.map brow)], ?_⟩
    repeat ((conv => whnf); (first | refine Cnd.yes ?_ | refine Cnd.no ?_ | refine And.intro rfl ?_ | refine aom ?_ | refine Alt.std ?_ | (show Ko_ _ _ _ _; subst hKo_)))
    conv => whnf
    exact hK
def fstS : Vc.Spec := fun args hp M K => ∃ (o : Bool) (eb : TypeId) (bl : List Int) (a : Int), args = [.v (.int .u32 a), .ptr 0 0 0 0] ∧ hp = [cellsB o 72 [.slc 1 1 0 bl.length], .row o eb [.int .u8] (bl.map brow)] ∧ 0 ≤ a ∧ a < 4294967296 ∧ K (.v (.int .u8 (firstN bl a))) [cellsB o 72 [.slc 1 1 0 bl.length], .row o eb [.int .u8] (bl.map brow)]
theorem fst_ok : SOK Tryd.prog 33 fstS := by
  refine TOK.weaken (TOK.out (runF_eq G0_ok mixed at33.1 at33.2 pf33_eq)) fun args hp M K h => ?_
  obtain ⟨o, eb, bl, a, rfl, rfl, h1, h2, h3⟩ := h
  cases o
  · exact fst_runF M K eb bl a h1 h2 h3
  · exact fst_runT M K eb bl a h1 h2 h3
noncomputable def specsP1 : Nat → Option Vc.Trans := tget [(33, frameT fstS), (55, frameT opS), (57, frameT bytesS), (59, frameT wrdS), (60, frameT sourceS), (61, frameT byteOfS)]
noncomputable def GP1 : Nat → Option Vc.Trans := tabG specsP1 (tget tab) 5
theorem GP1_ok : GOK Tryd.prog GP1 := tabG_ok (GOK.cons (frame_ok fst_ok) (GOK.cons (frame_ok op_ok) (GOK.cons (frame_ok bytes_ok) (GOK.cons (frame_ok wrd_ok) (GOK.cons (frame_ok source_ok) (GOK.cons (frame_ok byteOf_ok) .nil)))))) tab_ok 5
/-- A map of what reads is read from. -/
def FrIn (N : HL) (r : Nat) (F : Rf → Option (List Int)) : Prop := MapIn N r .two fun q => (F q).map fun l => .agg (l.map fun x => Value.int .i64 x).toArray
def byX (x : Op) (i : Nat) : Int := IntKind.u32.wrap (x.ad + IntKind.u32.wrap (i : Int))
/-- Where the i-th byte of what stands at place p is from. -/
def srcI (O : List Rf) (W : Int → List Int) (x : Op) (p : Nat) (r : Rf) (i : Nat) : Int := srcF O p r (W (byX x i))
def wantN (H : Hs) (O : List Rf) (W : Int → List Int) (bl : List Int) (x : Op) (p : Nat) (r : Rf) (i : Nat) : Int :=
  let w := srcI O W x p r i
  if 0 ≤ w then byteN (opAt H (O.getD w.toNat (0, 0))).v (opAt H (O.getD w.toNat (0, 0))).ad (byX x i) else firstN bl (byX x i)
def topB (x : Op) : Bool := (IntKind.u64.wrap x.g).fdiv (2 ^ (min (IntKind.i64.wrap (8 * x.sz)).toNat IntKind.u64.bits)) == 0
def goodI (H : Hs) (O : List Rf) (W : Int → List Int) (bl : List Int) (x : Op) (p : Nat) (r : Rf) : Nat → Bool
  | 0 => topB x
  | i + 1 => goodI H O W bl x p r i && (byteN x.g x.ad (byX x i) == wantN H O W bl x p r i)
def fromI (O : List Rf) (W : Int → List Int) (x : Op) (p : Nat) (r : Rf) (n j : Nat) : Int := if j < n then srcI O W x p r j else 0
def fromL (O : List Rf) (W : Int → List Int) (x : Op) (p : Nat) (r : Rf) (n : Nat) : List Int := [fromI O W x p r n 0, fromI O W x p r n 1, fromI O W x p r n 2, fromI O W x p r n 3]
/-- Does what stands at a place read something else than was there? -/
def badV (H : Hs) (O : List Rf) (W : Int → List Int) (bl : List Int) (p : Nat) : Bool :=
  let r := O.getD p (0, 0)
  let x := opAt H r
  rd x && !goodI H O W bl x p r x.sz.toNat
def frN (H : Hs) (O : List Rf) (W : Int → List Int) : Nat → Rf → Option (List Int)
  | 0, _ => none
  | n + 1, q =>
    let r := O.getD n (0, 0)
    let x := opAt H r
    if rd x && KT.two.same r q then some (fromL O W x n r x.sz.toNat) else frN H O W n q
theorem srcF_rng (O : List Rf) (p : Nat) (r : Rf) (ws : List Int) {n : Int} (h : ∀ w ∈ ws, 0 ≤ w ∧ w < n) (hn : 0 ≤ n) : -1 ≤ srcF O p r ws ∧ srcF O p r ws < n := by
  unfold srcF
  have key : ∀ (ws : List Int) (f : Int), (∀ w ∈ ws, 0 ≤ w ∧ w < n) → -1 ≤ f ∧ f < n → -1 ≤ ws.foldl (fun f w => if srcC O p r w then (if w > f then w else f) else f) f ∧ ws.foldl (fun f w => if srcC O p r w then (if w > f then w else f) else f) f < n := by
    intro ws
    induction ws with
    | nil => intro f _ hf; exact hf
    | cons w ws ih =>
      intro f hw hf
      refine ih _ (fun v hv => hw v (by simp [hv])) ?_
      have := hw w (by simp)
      dsimp only
      split
      · split <;> omega
      · exact hf
  exact key ws (-1) h ⟨by omega, by omega⟩
/-- What is asked of a list of places. -/
structure WOK (W : Int → List Int) (n : Nat) : Prop where
  r : ∀ b, ∀ w ∈ W b, 0 ≤ w ∧ w < (n : Int)
  l : ∀ b, (W b).length ≤ 1000000
structure SzOK (x : Op) : Prop where
  s : x.sz = 1 ∨ x.sz = 2 ∨ x.sz = 4
  a : 0 ≤ x.ad ∧ x.ad < 4294967296
theorem byX_rng (x : Op) (i : Nat) : 0 ≤ byX x i ∧ byX x i < 4294967296 := by unfold byX; simp only [IntKind.wrap_u32]; omega
theorem byL_get (x : Op) {n i : Nat} (hi : i < n) : toI (cellAt ((byL x n).map urow) (0 + (i : Int).toNat) 0) = byX x i := by
  rw [Nat.zero_add, Int.toNat_natCast]
  simp [cellAt, List.getD, byL, hi, urow, toI, byX]
end Go.Proofs.YtkfkoldaeplckaaDoor
