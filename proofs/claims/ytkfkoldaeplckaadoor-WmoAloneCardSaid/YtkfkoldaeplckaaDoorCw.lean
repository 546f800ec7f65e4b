/-
  The checker's alone, walked; its contract.
-/
import Derived.Test.YtkfkoldaeplckaaDoorCp
import Derived.Test.YtkfkoldaeplckaaDoorCu
import Derived.Test.YtkfkoldaeplckaaDoorCq
set_option linter.unusedSimpArgs false
set_option linter.unusedVariables false

namespace Go.Proofs.YtkfkoldaeplckaaDoor
open Go Go.Vc
set_option maxRecDepth 100000
set_option linter.unusedSimpArgs false
set_option linter.unusedVariables false
set_option maxHeartbeats 20000000
noncomputable def specsR1 : Nat → Option Vc.Trans := tget [(57, frameT bytesS)]
noncomputable def GR1 : Nat → Option Vc.Trans := tabG specsR1 (tget tab) 5
theorem GR1_ok : GOK Tryd.prog GR1 := tabG_ok (GOK.cons (frame_ok bytes_ok) .nil) tab_ok 5
/-- Does another hart write between an Lr and its Sc? -/
def cutW (O : List Rf) (p : Nat) (h : Int) (f w : Int) : Bool := decide (f < w) && (decide (w < p) && decide ((O.getD w.toNat (0, 0)).1 ≠ h))
def cutI (H : Hs) (O : List Rf) (W : Int → List Int) (F : Rf → Option (List Int)) (p : Nat) (r : Rf) (lr : Int) (i : Nat) : Bool :=
  let x := opAt H (r.1, lr)
  (W (byX x i)).any fun w => cutW O p r.1 (((F (r.1, lr)).getD [0, 0, 0, 0]).getD i 0) w
def lrOf (H : Hs) (r : Rf) : Int := pairN (H.getD r.1.toNat default).2 r.2.toNat
def badA (H : Hs) (O : List Rf) (W : Int → List Int) (F : Rf → Option (List Int)) (p : Nat) : Bool :=
  let r := O.getD p (0, 0)
  let lr := lrOf H r
  decide (0 ≤ lr) && anyB (opAt H (r.1, lr)).sz.toNat (cutI H O W F p r lr)
theorem getD_take {l : List Int} {p : Int → Bool} {i : Nat} (hi : i < l.length) : (l.take (i + 1)).any p = ((l.take i).any p || p (l.getD i 0)) := by
  rw [← List.take_append_getElem hi, List.any_append]
  simp [List.getD, hi]
theorem getD_mem {α : Type} [Inhabited α] (l : List α) {i : Nat} (h : i < l.length) : l.getD i default ∈ l := by simp [List.getD, h]
theorem alone_run (M : HL) (K : SV → List Ent → HL → Prop) (ad : Nat → Addr) (hS : Sents M ad) (eh eo eb : TypeId) (H : Hs) (O : List Rf) (P Q : List Value) (r1 r2 : Nat) (N1 N2 : HL) (bl : List Int) (W : Int → List Int) (F : Rf → Option (List Int))
    (hH : HIn M H) (hO : O.length ≤ 1000000) (hr : ∀ r ∈ O, RefOK H r) (hc : ∀ p ∈ H, p.2.length ≤ 1000) (hZ : ∀ h, h < H.length → ∀ x ∈ (H.getD h default).2, 0 ≤ x.sz ∧ x.sz ≤ 4) (hP : PrIn M P H) (hW : WrIn N1 r1 W) (hWO : WOK W O.length) (hF : FrIn N2 r2 F) (hF4 : ∀ q l, F q = some l → l.length = 4)
    (hK1 : (∀ p, p < O.length → badA H O W F p = false) → K (.v .nilIface) (chk true eh eo eb H O P Q r1 r2 N1 N2 bl) M)
    (hK2 : ∀ p, p < O.length → badA H O W F p = true → (∀ q, q < p → badA H O W F q = false) → K (.ifc 97 (.ptr 9 0 0 0)) (chk true eh eo eb H O P Q r1 r2 N1 N2 bl ++ [atE ad 9 p]) M) :
    runF GR1 pf38 [.ptr 0 0 0 0] (chk true eh eo eb H O P Q r1 r2 N1 N2 bl) M fun v hp2 M2 => ∃ m v' hp', Wk (llen (chk true eh eo eb H O P Q r1 r2 N1 N2 bl)) m [v] hp2 [v'] hp' (K v' hp' M2) := by
  repeat ((conv => whnf); (first | refine Cnd.yes ?_ | refine Cnd.no ?_ | refine And.intro rfl ?_ | refine aom ?_ | refine Alt.std ?_ | (show Ko_ _ _ _ _; subst hKo_) | refine ctt ?_ | refine cff ?_))
  conv => whnf
  refine ⟨InvS 104 (fun s : Nat => O.length - s) (fun s : Nat => s ≤ O.length ∧ (∀ q, q < s → badA H O W F q = false)) (fun s : Nat => [(0, .ptr 0 0 0 0), (2, .v .nilIface), (14, .slc 2 2 0 O.length), (15, .v (.int .i64 O.length)), (16, .v (.int .i64 s))]) (fun s : Nat => chk true eh eo eb H O P Q r1 r2 N1 N2 bl) M, ⟨(fun s : Nat => O.length - s) 0, [0, 1, 2, 3, 4, 5, 6, 7, 8], tmk 104 0 ((fun s : Nat => [(0, .ptr 0 0 0 0), (2, .v .nilIface), (14, .slc 2 2 0 O.length), (15, .v (.int .i64 O.length)), (16, .v (.int .i64 s))]) 0), (fun s : Nat => chk true eh eo eb H O P Q r1 r2 N1 N2 bl) 0, ?_⟩, ?_⟩
  · repeat ((conv => whnf); (first | refine Cnd.yes ?_ | refine Cnd.no ?_ | refine And.intro rfl ?_ | refine aom ?_ | refine Alt.std ?_ | (show Ko_ _ _ _ _; subst hKo_)))
    conv => whnf
    exact ⟨0, ⟨Nat.zero_le _, fun q hq => by omega⟩, rfl, rfl, (tmkK_eq _ _ _ _).mpr rfl, rfl⟩
  · rintro Ko_ hKo_ cnt tm hp M1 ⟨p, hC_, rfl, rfl, htm, hhp_⟩
    replace hC_ : p ≤ O.length ∧ (∀ q, q < p → badA H O W F q = false) := hC_
    obtain ⟨hpp,hall⟩ := hC_
    replace htm : tmkK 104 0 [(0, .ptr 0 0 0 0), (2, .v .nilIface), (14, .slc 2 2 0 O.length), (15, .v (.int .i64 O.length)), (16, .v (.int .i64 p))] (fun l => tm = l) := htm
    conv at htm => whnf
    subst htm
    replace hhp_ : hp = chk true eh eo eb H O P Q r1 r2 N1 N2 bl := hhp_
    subst hhp_
    repeat ((conv => whnf); (first | refine Cnd.yes ?_ | refine Cnd.no ?_ | refine And.intro rfl ?_ | refine aom ?_ | refine Alt.std ?_ | (show Ko_ _ _ _ _; subst hKo_) | refine ctt ?_ | refine cff ?_))
    conv => whnf
    refine Cnd.mk (fun hlt => ?_) fun hge => ?_
    · have hpn : p < O.length := by have := of_decide_eq_true hlt; omega
      have e0 : toI (cellAt (O.map rrow) (0 + (p : Int).toNat) 0) = (O.getD p (0, 0)).1 := by rw [Nat.zero_add, Int.toNat_natCast]; exact rcell0 O hpn
      have e1 : toI (cellAt (O.map rrow) (0 + (p : Int).toNat) (0 + 1)) = (O.getD p (0, 0)).2 := by rw [Nat.zero_add, Int.toNat_natCast]; exact rcell1 O hpn
      have hmo : O.getD p (0, 0) ∈ O := by simp [List.getD, hpn]
      have hro := hr _ hmo
      have hbad : badA H O W F p = (decide (0 ≤ lrOf H (O.getD p (0, 0))) && anyB (opAt H ((O.getD p (0, 0)).1, lrOf H (O.getD p (0, 0)))).sz.toNat (cutI H O W F p (O.getD p (0, 0)) (lrOf H (O.getD p (0, 0))))) := rfl
      generalize hrr : O.getD p (0, 0) = r at *
      obtain ⟨h0, h1, h2, h3⟩ := hro
      have hin : r.1.toNat < H.length := by omega
      have hmem : H.getD r.1.toNat default ∈ H := by simp [List.getD, hin]
      obtain ⟨e1', hR⟩ := hH.r _ hmem
      have hcl := hc _ hmem
      have hZl := hZ r.1.toNat hin
      have hPr := hP.r r.1.toNat hin
      have hPn : r.1.toNat < P.length := by rw [hP.n]; exact hin
      have c0 : cellAt (H.map hrow) (0 + r.1.toNat) 0 = (H.getD r.1.toNat default).1 := by rw [Nat.zero_add, hcell H hin]
      have c2 : cellAt (P.map vrow) (0 + r.1.toNat) 0 = P.getD r.1.toNat nilV := by rw [Nat.zero_add, vcell P hPn]
      have hyl := hR.len
      have hpl := hPr.len
      have hpln : (pairsL (H.getD r.1.toNat default).2).length = (H.getD r.1.toNat default).2.length := by simp [pairsL]
      rw [List.length_map] at hyl hpl
      have elr : toI (cellAt ((pairsL (H.getD r.1.toNat default).2).map irow) r.2.toNat 0) = lrOf H r := by
        have := toI_i (l := pairsL (H.getD r.1.toNat default).2) (i := r.2.toNat) (by omega)
        rw [Nat.zero_add, Int.toNat_natCast] at this
        rw [this, pairs_get (by omega)]
        rfl
      have hlr : -1 ≤ lrOf H r ∧ lrOf H r < (H.getD r.1.toNat default).2.length := pairN_rng _ _ (by omega)
      repeat ((conv => whnf); (first | refine Cnd.yes ?_ | refine Cnd.no ?_ | refine And.intro rfl ?_ | refine aom ?_ | refine Alt.std ?_ | (show Ko_ _ _ _ _; subst hKo_) | refine ctt ?_ | refine cff ?_))
      conv => whnf
      rw [e0, e1]
      repeat ((conv => whnf); (first | refine Cnd.yes ?_ | refine Cnd.no ?_ | refine And.intro rfl ?_ | refine aom ?_ | refine Alt.std ?_ | (show Ko_ _ _ _ _; subst hKo_) | refine ctt ?_ | refine cff ?_))
      conv => whnf
      rw [c2]
      repeat ((conv => whnf); (first | refine Cnd.yes ?_ | refine Cnd.no ?_ | refine And.intro rfl ?_ | refine aom ?_ | refine Alt.std ?_ | (show Ko_ _ _ _ _; subst hKo_) | refine ctt ?_ | refine cff ?_))
      conv => whnf
      refine ⟨3, [.int .i64], (pairsL (H.getD r.1.toNat default).2).map irow, .inr (.inr hPr), ?_⟩
      repeat ((conv => whnf); (first | refine Cnd.yes ?_ | refine Cnd.no ?_ | refine And.intro rfl ?_ | refine aom ?_ | refine Alt.std ?_ | (show Ko_ _ _ _ _; subst hKo_) | refine ctt ?_ | refine cff ?_))
      conv => whnf
      rw [elr]
      by_cases hneg : lrOf H r < 0
      · have hbf : badA H O W F p = false := by rw [hbad, decide_eq_false (by omega), Bool.false_and]
        repeat ((conv => whnf); (first | refine Cnd.yes ?_ | refine Cnd.no ?_ | refine And.intro rfl ?_ | refine aom ?_ | refine Alt.std ?_ | (show Ko_ _ _ _ _; subst hKo_) | refine ctt ?_ | refine cff ?_))
        conv => whnf
        (refine ⟨(fun s : Nat => O.length - s) (p + 1), [0, 1, 2, 3, 4, 5, 6, 7, 8], tmk 104 0 ((fun s : Nat => [(0, .ptr 0 0 0 0), (2, .v .nilIface), (14, .slc 2 2 0 O.length), (15, .v (.int .i64 O.length)), (16, .v (.int .i64 s))]) (p + 1)), (fun s : Nat => chk true eh eo eb H O P Q r1 r2 N1 N2 bl) (p + 1), ?_, ?_⟩; focus (first | (simp only []; omega) | omega))
        repeat ((conv => whnf); (first | refine Cnd.yes ?_ | refine Cnd.no ?_ | refine And.intro rfl ?_ | refine aom ?_ | refine Alt.std ?_ | (show Ko_ _ _ _ _; subst hKo_)))
        conv => whnf
        exact ⟨p + 1, ⟨hpn, fun q hq => by rcases Nat.lt_succ_iff_lt_or_eq.1 hq with h | h; exact hall q h; rw [h]; exact hbf⟩, rfl, rfl, (tmkK_eq _ _ _ _).mpr rfl, rfl⟩
      rw [decide_eq_true (by omega), Bool.true_and] at hbad
      obtain ⟨lr, hlre⟩ : ∃ lr : Nat, lrOf H r = lr := ⟨(lrOf H r).toNat, by omega⟩
      rw [hlre] at hbad hlr hneg ⊢
      obtain ⟨x, hx⟩ : ∃ x, opAt H (r.1, (lr : Int)) = x := ⟨_, rfl⟩
      have hx0 : (H.getD r.1.toNat default).2.getD lr default = x := hx
      rw [hx] at hbad
      obtain ⟨fl, hfl⟩ : ∃ fl, (F (r.1, (lr : Int))).getD [0, 0, 0, 0] = fl := ⟨_, rfl⟩
      obtain ⟨f0, f1, f2, f3, rfl⟩ : ∃ f0 f1 f2 f3, fl = [f0, f1, f2, f3] := by
        have h4 : fl.length = 4 := by
          rw [← hfl]
          cases hh : F (r.1, (lr : Int)) with
          | none => rfl
          | some l => exact hF4 _ _ hh
        match fl, h4 with
        | [a, b, c, d], _ => exact ⟨a, b, c, d, rfl⟩
      have hfz : (((F (r.1, (lr : Int))).map fun l => Value.agg (l.map fun x => Value.int .i64 x).toArray)).getD (.agg #[.int .i64 0, .int .i64 0, .int .i64 0, .int .i64 0]) = .agg [Value.int .i64 f0, .int .i64 f1, .int .i64 f2, .int .i64 f3].toArray := by
        rw [show ([Value.int .i64 f0, .int .i64 f1, .int .i64 f2, .int .i64 f3] : List Value) = [f0, f1, f2, f3].map fun x => Value.int .i64 x from rfl, ← hfl]
        cases F (r.1, (lr : Int)) <;> rfl
      repeat ((conv => whnf); (first | refine Cnd.yes ?_ | refine Cnd.no ?_ | refine And.intro rfl ?_ | refine aom ?_ | refine Alt.std ?_ | (show Ko_ _ _ _ _; subst hKo_) | refine ctt ?_ | refine cff ?_))
      conv => whnf
      refine ⟨InvC 104 (fun s : Unit => s = ()) (fun s : Unit => [(0, .ptr 0 0 0 0), (2, .v .nilIface), (3, .v (.int .i64 p)), (4, .ptr 9 0 0 0), (5, .v (.int .i64 lr)), (6, .ptr 10 0 0 0), (14, .slc 2 2 0 O.length), (15, .v (.int .i64 O.length)), (16, .v (.int .i64 p))]) (fun s : Unit => chk true eh eo eb H O P Q r1 r2 N1 N2 bl ++ [Ent.cells 41 [.v (.int .i64 r.1), .v (.int .i64 r.2)], Ent.cells 104 [.v (.int .i64 f0), .v (.int .i64 f1), .v (.int .i64 f2), .v (.int .i64 f3)]]) M1, ?_, ?_⟩
      · repeat ((conv => whnf); (first | refine Cnd.yes ?_ | refine Cnd.no ?_ | refine And.intro rfl ?_ | refine aom ?_ | refine Alt.std ?_ | (show Ko_ _ _ _ _; subst hKo_) | refine ctt ?_ | refine cff ?_))
        conv => whnf
        refine ⟨?_, ?_⟩
        · repeat ((conv => whnf); (first | refine Cnd.yes ?_ | refine Cnd.no ?_ | refine And.intro rfl ?_ | refine aom ?_ | refine Alt.std ?_ | (show Ko_ _ _ _ _; subst hKo_) | refine ctt ?_ | refine cff ?_))
          conv => whnf
          intro Mr hMr
          repeat ((conv => whnf); (first | refine Cnd.yes ?_ | refine Cnd.no ?_ | refine And.intro rfl ?_ | refine aom ?_ | refine Alt.std ?_ | (show Ko_ _ _ _ _; subst hKo_) | refine ctt ?_ | refine cff ?_))
          conv => whnf
          refine ⟨false, N2, _, rfl, hF, [.int .i64 f0, .int .i64 f1, .int .i64 f2, .int .i64 f3], hfz, ?_⟩
          repeat ((conv => whnf); (first | refine Cnd.yes ?_ | refine Cnd.no ?_ | refine And.intro rfl ?_ | refine aom ?_ | refine Alt.std ?_ | (show Ko_ _ _ _ _; subst hKo_) | refine ctt ?_ | refine cff ?_))
          conv => whnf
          intro Mr2 hMr2
          repeat ((conv => whnf); (first | refine Cnd.yes ?_ | refine Cnd.no ?_ | refine And.intro rfl ?_ | refine aom ?_ | refine Alt.std ?_ | (show Ko_ _ _ _ _; subst hKo_) | refine ctt ?_ | refine cff ?_))
          conv => whnf
          refine ⟨[0, 1, 2, 3, 4, 5, 6, 7, 8, 9, 10], tmk 104 0 ((fun s : Unit => [(0, .ptr 0 0 0 0), (2, .v .nilIface), (3, .v (.int .i64 p)), (4, .ptr 9 0 0 0), (5, .v (.int .i64 lr)), (6, .ptr 10 0 0 0), (14, .slc 2 2 0 O.length), (15, .v (.int .i64 O.length)), (16, .v (.int .i64 p))]) (())), (fun s : Unit => chk true eh eo eb H O P Q r1 r2 N1 N2 bl ++ [Ent.cells 41 [.v (.int .i64 r.1), .v (.int .i64 r.2)], Ent.cells 104 [.v (.int .i64 f0), .v (.int .i64 f1), .v (.int .i64 f2), .v (.int .i64 f3)]]) (()), ?_⟩
          repeat ((conv => whnf); (first | refine Cnd.yes ?_ | refine Cnd.no ?_ | refine And.intro rfl ?_ | refine aom ?_ | refine Alt.std ?_ | (show Ko_ _ _ _ _; subst hKo_)))
          conv => whnf
          exact ⟨(), rfl, rfl, (tmkK_eq _ _ _ _).mpr rfl, rfl⟩
        · repeat ((conv => whnf); (first | refine Cnd.yes ?_ | refine Cnd.no ?_ | refine And.intro rfl ?_ | refine aom ?_ | refine Alt.std ?_ | (show Ko_ _ _ _ _; subst hKo_) | refine ctt ?_ | refine cff ?_))
          conv => whnf
          intro Mr hMr
          repeat ((conv => whnf); (first | refine Cnd.yes ?_ | refine Cnd.no ?_ | refine And.intro rfl ?_ | refine aom ?_ | refine Alt.std ?_ | (show Ko_ _ _ _ _; subst hKo_) | refine ctt ?_ | refine cff ?_))
          conv => whnf
          intro Mr2 hMr2
          repeat ((conv => whnf); (first | refine Cnd.yes ?_ | refine Cnd.no ?_ | refine And.intro rfl ?_ | refine aom ?_ | refine Alt.std ?_ | (show Ko_ _ _ _ _; subst hKo_) | refine ctt ?_ | refine cff ?_))
          conv => whnf
          refine ⟨false, N2, _, rfl, hF, [.int .i64 f0, .int .i64 f1, .int .i64 f2, .int .i64 f3], hfz, ?_⟩
          repeat ((conv => whnf); (first | refine Cnd.yes ?_ | refine Cnd.no ?_ | refine And.intro rfl ?_ | refine aom ?_ | refine Alt.std ?_ | (show Ko_ _ _ _ _; subst hKo_) | refine ctt ?_ | refine cff ?_))
          conv => whnf
          refine ⟨[0, 1, 2, 3, 4, 5, 6, 7, 8, 9, 10], tmk 104 0 ((fun s : Unit => [(0, .ptr 0 0 0 0), (2, .v .nilIface), (3, .v (.int .i64 p)), (4, .ptr 9 0 0 0), (5, .v (.int .i64 lr)), (6, .ptr 10 0 0 0), (14, .slc 2 2 0 O.length), (15, .v (.int .i64 O.length)), (16, .v (.int .i64 p))]) (())), (fun s : Unit => chk true eh eo eb H O P Q r1 r2 N1 N2 bl ++ [Ent.cells 41 [.v (.int .i64 r.1), .v (.int .i64 r.2)], Ent.cells 104 [.v (.int .i64 f0), .v (.int .i64 f1), .v (.int .i64 f2), .v (.int .i64 f3)]]) (()), ?_⟩
          repeat ((conv => whnf); (first | refine Cnd.yes ?_ | refine Cnd.no ?_ | refine And.intro rfl ?_ | refine aom ?_ | refine Alt.std ?_ | (show Ko_ _ _ _ _; subst hKo_)))
          conv => whnf
          exact ⟨(), rfl, rfl, (tmkK_eq _ _ _ _).mpr rfl, rfl⟩
      rintro tm hp M1 ⟨u, hC_, rfl, htm, hhp_⟩
      replace hC_ : u = () := hC_
      have _h := hC_
      replace htm : tmkK 104 0 [(0, .ptr 0 0 0 0), (2, .v .nilIface), (3, .v (.int .i64 p)), (4, .ptr 9 0 0 0), (5, .v (.int .i64 lr)), (6, .ptr 10 0 0 0), (14, .slc 2 2 0 O.length), (15, .v (.int .i64 O.length)), (16, .v (.int .i64 p))] (fun l => tm = l) := htm
      conv at htm => whnf
      subst htm
      replace hhp_ : hp = chk true eh eo eb H O P Q r1 r2 N1 N2 bl ++ [Ent.cells 41 [.v (.int .i64 r.1), .v (.int .i64 r.2)], Ent.cells 104 [.v (.int .i64 f0), .v (.int .i64 f1), .v (.int .i64 f2), .v (.int .i64 f3)]] := hhp_
      subst hhp_
      repeat ((conv => whnf); (first | refine Cnd.yes ?_ | refine Cnd.no ?_ | refine And.intro rfl ?_ | refine aom ?_ | refine Alt.std ?_ | (show Ko_ _ _ _ _; subst hKo_) | refine ctt ?_ | refine cff ?_))
      conv => whnf
      rw [c0, hyl]
      repeat ((conv => whnf); (first | refine Cnd.yes ?_ | refine Cnd.no ?_ | refine And.intro rfl ?_ | refine aom ?_ | refine Alt.std ?_ | (show Ko_ _ _ _ _; subst hKo_) | refine ctt ?_ | refine cff ?_))
      conv => whnf
      refine ⟨e1', ock, _, .inr (.inr hR), ?_⟩
      repeat ((conv => whnf); (first | refine Cnd.yes ?_ | refine Cnd.no ?_ | refine And.intro rfl ?_ | refine aom ?_ | refine Alt.std ?_ | (show Ko_ _ _ _ _; subst hKo_) | refine ctt ?_ | refine cff ?_))
      conv => whnf
      have hll : lr < (H.getD r.1.toNat default).2.length := by omega
      have c0 : toI (cellAt (List.map orow (H.getD r.1.toNat default).2) (lr : Int).toNat 0) = Op.k x := by rw [ocell (H.getD r.1.toNat default).2 (show (lr : Int).toNat < (H.getD r.1.toNat default).2.length by omega), (show (H.getD r.1.toNat default).2.getD (lr : Int).toNat default = x by rw [Int.toNat_natCast]; exact hx0)]; rfl
      have c1 : toI (cellAt (List.map orow (H.getD r.1.toNat default).2) (lr : Int).toNat (0 + 1)) = Op.sz x := by rw [ocell (H.getD r.1.toNat default).2 (show (lr : Int).toNat < (H.getD r.1.toNat default).2.length by omega), (show (H.getD r.1.toNat default).2.getD (lr : Int).toNat default = x by rw [Int.toNat_natCast]; exact hx0)]; rfl
      have c2 : toI (cellAt (List.map orow (H.getD r.1.toNat default).2) (lr : Int).toNat (0 + 1 + 1)) = Op.ad x := by rw [ocell (H.getD r.1.toNat default).2 (show (lr : Int).toNat < (H.getD r.1.toNat default).2.length by omega), (show (H.getD r.1.toNat default).2.getD (lr : Int).toNat default = x by rw [Int.toNat_natCast]; exact hx0)]; rfl
      have c3 : toI (cellAt (List.map orow (H.getD r.1.toNat default).2) (lr : Int).toNat (0 + 1 + 1 + 1)) = Op.v x := by rw [ocell (H.getD r.1.toNat default).2 (show (lr : Int).toNat < (H.getD r.1.toNat default).2.length by omega), (show (H.getD r.1.toNat default).2.getD (lr : Int).toNat default = x by rw [Int.toNat_natCast]; exact hx0)]; rfl
      have c4 : toI (cellAt (List.map orow (H.getD r.1.toNat default).2) (lr : Int).toNat (0 + 1 + 1 + 1 + 1)) = Op.g x := by rw [ocell (H.getD r.1.toNat default).2 (show (lr : Int).toNat < (H.getD r.1.toNat default).2.length by omega), (show (H.getD r.1.toNat default).2.getD (lr : Int).toNat default = x by rw [Int.toNat_natCast]; exact hx0)]; rfl
      have c5 : toB (cellAt (List.map orow (H.getD r.1.toNat default).2) (lr : Int).toNat (0 + 1 + 1 + 1 + 1 + 1)) = Op.pr x := by rw [ocell (H.getD r.1.toNat default).2 (show (lr : Int).toNat < (H.getD r.1.toNat default).2.length by omega), (show (H.getD r.1.toNat default).2.getD (lr : Int).toNat default = x by rw [Int.toNat_natCast]; exact hx0)]; rfl
      have c6 : toB (cellAt (List.map orow (H.getD r.1.toNat default).2) (lr : Int).toNat (0 + 1 + 1 + 1 + 1 + 1 + 1)) = Op.aq x := by rw [ocell (H.getD r.1.toNat default).2 (show (lr : Int).toNat < (H.getD r.1.toNat default).2.length by omega), (show (H.getD r.1.toNat default).2.getD (lr : Int).toNat default = x by rw [Int.toNat_natCast]; exact hx0)]; rfl
      have c7 : toB (cellAt (List.map orow (H.getD r.1.toNat default).2) (lr : Int).toNat (0 + 1 + 1 + 1 + 1 + 1 + 1 + 1)) = Op.rl x := by rw [ocell (H.getD r.1.toNat default).2 (show (lr : Int).toNat < (H.getD r.1.toNat default).2.length by omega), (show (H.getD r.1.toNat default).2.getD (lr : Int).toNat default = x by rw [Int.toNat_natCast]; exact hx0)]; rfl
      have c8 : toI (cellAt (List.map orow (H.getD r.1.toNat default).2) (lr : Int).toNat (0 + 1 + 1 + 1 + 1 + 1 + 1 + 1 + 1)) = Op.pd x := by rw [ocell (H.getD r.1.toNat default).2 (show (lr : Int).toNat < (H.getD r.1.toNat default).2.length by omega), (show (H.getD r.1.toNat default).2.getD (lr : Int).toNat default = x by rw [Int.toNat_natCast]; exact hx0)]; rfl
      have c9 : toI (cellAt (List.map orow (H.getD r.1.toNat default).2) (lr : Int).toNat (0 + 1 + 1 + 1 + 1 + 1 + 1 + 1 + 1 + 1)) = Op.sc x := by rw [ocell (H.getD r.1.toNat default).2 (show (lr : Int).toNat < (H.getD r.1.toNat default).2.length by omega), (show (H.getD r.1.toNat default).2.getD (lr : Int).toNat default = x by rw [Int.toNat_natCast]; exact hx0)]; rfl
      have c10 : cellAt (List.map orow (H.getD r.1.toNat default).2) (lr : Int).toNat (0 + 1 + 1 + 1 + 1 + 1 + 1 + 1 + 1 + 1 + 1) = Op.ya x := by rw [ocell (H.getD r.1.toNat default).2 (show (lr : Int).toNat < (H.getD r.1.toNat default).2.length by omega), (show (H.getD r.1.toNat default).2.getD (lr : Int).toNat default = x by rw [Int.toNat_natCast]; exact hx0)]; rfl
      have c11 : cellAt (List.map orow (H.getD r.1.toNat default).2) (lr : Int).toNat (0 + 1 + 1 + 1 + 1 + 1 + 1 + 1 + 1 + 1 + 1 + 1) = Op.yd x := by rw [ocell (H.getD r.1.toNat default).2 (show (lr : Int).toNat < (H.getD r.1.toNat default).2.length by omega), (show (H.getD r.1.toNat default).2.getD (lr : Int).toNat default = x by rw [Int.toNat_natCast]; exact hx0)]; rfl
      have c12 : cellAt (List.map orow (H.getD r.1.toNat default).2) (lr : Int).toNat (0 + 1 + 1 + 1 + 1 + 1 + 1 + 1 + 1 + 1 + 1 + 1 + 1) = Op.yc x := by rw [ocell (H.getD r.1.toNat default).2 (show (lr : Int).toNat < (H.getD r.1.toNat default).2.length by omega), (show (H.getD r.1.toNat default).2.getD (lr : Int).toNat default = x by rw [Int.toNat_natCast]; exact hx0)]; rfl
      rw [c0, c1, c2, c3, c4, c5, c6, c7, c8, c9, c10, c11, c12]
      clear c0 c1 c2 c3 c4 c5 c6 c7 c8 c9 c10 c11 c12
      repeat ((conv => whnf); (first | refine Cnd.yes ?_ | refine Cnd.no ?_ | refine And.intro rfl ?_ | refine aom ?_ | refine Alt.std ?_ | (show Ko_ _ _ _ _; subst hKo_) | refine ctt ?_ | refine cff ?_))
      conv => whnf
      intro Mr hMr
      repeat ((conv => whnf); (first | refine Cnd.yes ?_ | refine Cnd.no ?_ | refine And.intro rfl ?_ | refine aom ?_ | refine Alt.std ?_ | (show Ko_ _ _ _ _; subst hKo_) | refine ctt ?_ | refine cff ?_))
      conv => whnf
      have hzx : 0 ≤ x.sz ∧ x.sz ≤ 4 := hZl x (hx0 ▸ getD_mem _ hll)
      refine ⟨x, rfl, rfl, by omega, ?_⟩
      obtain ⟨z, hzz⟩ : ∃ z : Nat, x.sz = z := ⟨x.sz.toNat, by omega⟩
      have hzt : x.sz.toNat = z := by omega
      have hz4 : z ≤ 4 := by omega
      have hcI : ∀ i, cutI H O W F p r lr i = (W (byX x i)).any fun w => cutW O p r.1 (([f0, f1, f2, f3] : List Int).getD i 0) w := fun i => by
        show ((W (byX (opAt H (r.1, (lr : Int))) i)).any fun w => cutW O p r.1 (((F (r.1, (lr : Int))).getD [0, 0, 0, 0]).getD i 0) w) = _
        rw [hx, hfl]
      rw [hzt] at hbad ⊢
      repeat ((conv => whnf); (first | refine Cnd.yes ?_ | refine Cnd.no ?_ | refine And.intro rfl ?_ | refine aom ?_ | refine Alt.std ?_ | (show Ko_ _ _ _ _; subst hKo_) | refine ctt ?_ | refine cff ?_))
      conv => whnf
      refine ⟨InvS 104 (fun s : Nat => z - s) (fun s : Nat => s ≤ z ∧ ∀ j, j < s → cutI H O W F p r lr j = false) (fun s : Nat => [(0, .ptr 0 0 0 0), (2, .v .nilIface), (3, .v (.int .i64 p)), (4, .ptr 9 0 0 0), (5, .v (.int .i64 lr)), (6, .ptr 10 0 0 0), (14, .slc 2 2 0 O.length), (15, .v (.int .i64 O.length)), (16, .v (.int .i64 p)), (55, .slc 11 1 0 z), (56, .v (.int .i64 z)), (57, .v (.int .i64 s))]) (fun s : Nat => chk true eh eo eb H O P Q r1 r2 N1 N2 bl ++ [Ent.cells 41 [.v (.int .i64 r.1), .v (.int .i64 r.2)], Ent.cells 104 [.v (.int .i64 f0), .v (.int .i64 f1), .v (.int .i64 f2), .v (.int .i64 f3)], .row true 36 [.int .u32] ((byL x z).map urow)]) M1, ⟨(fun s : Nat => z - s) 0, [0, 1, 2, 3, 4, 5, 6, 7, 8, 9, 10, 11], tmk 104 0 ((fun s : Nat => [(0, .ptr 0 0 0 0), (2, .v .nilIface), (3, .v (.int .i64 p)), (4, .ptr 9 0 0 0), (5, .v (.int .i64 lr)), (6, .ptr 10 0 0 0), (14, .slc 2 2 0 O.length), (15, .v (.int .i64 O.length)), (16, .v (.int .i64 p)), (55, .slc 11 1 0 z), (56, .v (.int .i64 z)), (57, .v (.int .i64 s))]) 0), (fun s : Nat => chk true eh eo eb H O P Q r1 r2 N1 N2 bl ++ [Ent.cells 41 [.v (.int .i64 r.1), .v (.int .i64 r.2)], Ent.cells 104 [.v (.int .i64 f0), .v (.int .i64 f1), .v (.int .i64 f2), .v (.int .i64 f3)], .row true 36 [.int .u32] ((byL x z).map urow)]) 0, ?_⟩, ?_⟩
      · repeat ((conv => whnf); (first | refine Cnd.yes ?_ | refine Cnd.no ?_ | refine And.intro rfl ?_ | refine aom ?_ | refine Alt.std ?_ | (show Ko_ _ _ _ _; subst hKo_)))
        conv => whnf
        exact ⟨0, ⟨Nat.zero_le _, fun q hq => by omega⟩, rfl, rfl, (tmkK_eq _ _ _ _).mpr rfl, rfl⟩
      · rintro Ko_ hKo_ cnt tm hp M1 ⟨i, hC_, rfl, rfl, htm, hhp_⟩
        replace hC_ : i ≤ z ∧ ∀ j, j < i → cutI H O W F p r lr j = false := hC_
        obtain ⟨hi,hci⟩ := hC_
        replace htm : tmkK 104 0 [(0, .ptr 0 0 0 0), (2, .v .nilIface), (3, .v (.int .i64 p)), (4, .ptr 9 0 0 0), (5, .v (.int .i64 lr)), (6, .ptr 10 0 0 0), (14, .slc 2 2 0 O.length), (15, .v (.int .i64 O.length)), (16, .v (.int .i64 p)), (55, .slc 11 1 0 z), (56, .v (.int .i64 z)), (57, .v (.int .i64 i))] (fun l => tm = l) := htm
        conv at htm => whnf
        subst htm
        replace hhp_ : hp = chk true eh eo eb H O P Q r1 r2 N1 N2 bl ++ [Ent.cells 41 [.v (.int .i64 r.1), .v (.int .i64 r.2)], Ent.cells 104 [.v (.int .i64 f0), .v (.int .i64 f1), .v (.int .i64 f2), .v (.int .i64 f3)], .row true 36 [.int .u32] ((byL x z).map urow)] := hhp_
        subst hhp_
        repeat ((conv => whnf); (first | refine Cnd.yes ?_ | refine Cnd.no ?_ | refine And.intro rfl ?_ | refine aom ?_ | refine Alt.std ?_ | (show Ko_ _ _ _ _; subst hKo_) | refine ctt ?_ | refine cff ?_))
        conv => whnf
        refine Cnd.mk (fun hlt2 => ?_) fun hge2 => ?_
        · have hin2 : i < z := by have := of_decide_eq_true hlt2; omega
          have hbx := byL_get x hin2
          have hbl := byL_len x z
          obtain ⟨g, y, hM, hg, hy⟩ := hW.get (byX x i)
          have hyR := hy.rows
          have hyl2 := hyR.len
          rw [List.length_map] at hyl2
          have hwr := hWO.r (byX x i)
          have hwl := hWO.l (byX x i)
          have hcIi := hcI i
          repeat ((conv => whnf); (first | refine Cnd.yes ?_ | refine Cnd.no ?_ | refine And.intro rfl ?_ | refine aom ?_ | refine Alt.std ?_ | (show Ko_ _ _ _ _; subst hKo_) | refine ctt ?_ | refine cff ?_))
          conv => whnf
          rw [hbx]
          repeat ((conv => whnf); (first | refine Cnd.yes ?_ | refine Cnd.no ?_ | refine And.intro rfl ?_ | refine aom ?_ | refine Alt.std ?_ | (show Ko_ _ _ _ _; subst hKo_) | refine ctt ?_ | refine cff ?_))
          conv => whnf
          refine ⟨true, N1, g, rfl, hM, y, hg, hyR.is, ?_⟩
          repeat ((conv => whnf); (first | refine Cnd.yes ?_ | refine Cnd.no ?_ | refine And.intro rfl ?_ | refine aom ?_ | refine Alt.std ?_ | (show Ko_ _ _ _ _; subst hKo_) | refine ctt ?_ | refine cff ?_))
          conv => whnf
          rw [hyl2]
          generalize W (byX x i) = ws at *
          obtain ⟨fi, hfi⟩ : ∃ fi, ([f0, f1, f2, f3] : List Int).getD i 0 = fi := ⟨_, rfl⟩
          rw [hfi] at hcIi
          refine ⟨InvS 104 (fun s : Nat => ws.length - s) (fun s : Nat => s ≤ ws.length ∧ ((ws.take s).any fun w => cutW O p r.1 fi w) = false) (fun s : Nat => [(0, .ptr 0 0 0 0), (2, .v .nilIface), (3, .v (.int .i64 p)), (4, .ptr 9 0 0 0), (5, .v (.int .i64 lr)), (6, .ptr 10 0 0 0), (7, .v (.int .i64 i)), (8, .v (.int .u32 (byX x i))), (14, .slc 2 2 0 O.length), (15, .v (.int .i64 O.length)), (16, .v (.int .i64 p)), (55, .slc 11 1 0 z), (56, .v (.int .i64 z)), (57, .v (.int .i64 i)), (67, .rsl y), (68, .v (.int .i64 ws.length)), (69, .v (.int .i64 s))]) (fun s : Nat => chk true eh eo eb H O P Q r1 r2 N1 N2 bl ++ [Ent.cells 41 [.v (.int .i64 r.1), .v (.int .i64 r.2)], Ent.cells 104 [.v (.int .i64 f0), .v (.int .i64 f1), .v (.int .i64 f2), .v (.int .i64 f3)], .row true 36 [.int .u32] ((byL x z).map urow)]) M1, ⟨(fun s : Nat => ws.length - s) 0, [0, 1, 2, 3, 4, 5, 6, 7, 8, 9, 10, 11], tmk 104 0 ((fun s : Nat => [(0, .ptr 0 0 0 0), (2, .v .nilIface), (3, .v (.int .i64 p)), (4, .ptr 9 0 0 0), (5, .v (.int .i64 lr)), (6, .ptr 10 0 0 0), (7, .v (.int .i64 i)), (8, .v (.int .u32 (byX x i))), (14, .slc 2 2 0 O.length), (15, .v (.int .i64 O.length)), (16, .v (.int .i64 p)), (55, .slc 11 1 0 z), (56, .v (.int .i64 z)), (57, .v (.int .i64 i)), (67, .rsl y), (68, .v (.int .i64 ws.length)), (69, .v (.int .i64 s))]) 0), (fun s : Nat => chk true eh eo eb H O P Q r1 r2 N1 N2 bl ++ [Ent.cells 41 [.v (.int .i64 r.1), .v (.int .i64 r.2)], Ent.cells 104 [.v (.int .i64 f0), .v (.int .i64 f1), .v (.int .i64 f2), .v (.int .i64 f3)], .row true 36 [.int .u32] ((byL x z).map urow)]) 0, ?_⟩, ?_⟩
          · repeat ((conv => whnf); (first | refine Cnd.yes ?_ | refine Cnd.no ?_ | refine And.intro rfl ?_ | refine aom ?_ | refine Alt.std ?_ | (show Ko_ _ _ _ _; subst hKo_)))
            conv => whnf
            exact ⟨0, ⟨Nat.zero_le _, rfl⟩, rfl, rfl, (tmkK_eq _ _ _ _).mpr rfl, rfl⟩
          · rintro Ko_ hKo_ cnt tm hp M1 ⟨j, hC_, rfl, rfl, htm, hhp_⟩
            replace hC_ : j ≤ ws.length ∧ ((ws.take j).any fun w => cutW O p r.1 fi w) = false := hC_
            obtain ⟨hj,hcj⟩ := hC_
            replace htm : tmkK 104 0 [(0, .ptr 0 0 0 0), (2, .v .nilIface), (3, .v (.int .i64 p)), (4, .ptr 9 0 0 0), (5, .v (.int .i64 lr)), (6, .ptr 10 0 0 0), (7, .v (.int .i64 i)), (8, .v (.int .u32 (byX x i))), (14, .slc 2 2 0 O.length), (15, .v (.int .i64 O.length)), (16, .v (.int .i64 p)), (55, .slc 11 1 0 z), (56, .v (.int .i64 z)), (57, .v (.int .i64 i)), (67, .rsl y), (68, .v (.int .i64 ws.length)), (69, .v (.int .i64 j))] (fun l => tm = l) := htm
            conv at htm => whnf
            subst htm
            replace hhp_ : hp = chk true eh eo eb H O P Q r1 r2 N1 N2 bl ++ [Ent.cells 41 [.v (.int .i64 r.1), .v (.int .i64 r.2)], Ent.cells 104 [.v (.int .i64 f0), .v (.int .i64 f1), .v (.int .i64 f2), .v (.int .i64 f3)], .row true 36 [.int .u32] ((byL x z).map urow)] := hhp_
            subst hhp_
            repeat ((conv => whnf); (first | refine Cnd.yes ?_ | refine Cnd.no ?_ | refine And.intro rfl ?_ | refine aom ?_ | refine Alt.std ?_ | (show Ko_ _ _ _ _; subst hKo_) | refine ctt ?_ | refine cff ?_))
            conv => whnf
            refine Cnd.mk (fun hlt3 => ?_) fun hge3 => ?_
            · have hjn : j < ws.length := by have := of_decide_eq_true hlt3; omega
              have ew : toI (cellAt (ws.map irow) (j : Int).toNat 0) = ws.getD j 0 := by have := toI_i hjn; rwa [Nat.zero_add] at this
              obtain ⟨hw0, hw1⟩ := hwr (ws.getD j 0) (by simp [List.getD, hjn])
              have hnx := getD_take (p := fun w => cutW O p r.1 fi w) hjn
              rw [hcj, Bool.false_or] at hnx
              have hmw : ws.getD j 0 ∈ ws := by simp [List.getD, hjn]
              obtain ⟨w, hw⟩ : ∃ w, ws.getD j 0 = w := ⟨_, rfl⟩
              rw [hw] at hw0 hw1 hnx ew hmw
              have hwt : w.toNat < O.length := by omega
              have g0 : toI (cellAt (O.map rrow) (0 + w.toNat) (0 + 0)) = (O.getD w.toNat (0, 0)).1 := by rw [Nat.zero_add]; exact rcell0 O hwt
              repeat ((conv => whnf); (first | refine Cnd.yes ?_ | refine Cnd.no ?_ | refine And.intro rfl ?_ | refine aom ?_ | refine Alt.std ?_ | (show Ko_ _ _ _ _; subst hKo_) | refine ctt ?_ | refine cff ?_))
              conv => whnf
              refine ⟨3, [.int .i64], ws.map irow, .inl hyR, ?_⟩
              repeat ((conv => whnf); (first | refine Cnd.yes ?_ | refine Cnd.no ?_ | refine And.intro rfl ?_ | refine aom ?_ | refine Alt.std ?_ | (show Ko_ _ _ _ _; subst hKo_) | refine ctt ?_ | refine cff ?_))
              conv => whnf
              rw [ew]
              repeat ((conv => whnf); (first | refine Cnd.yes ?_ | refine Cnd.no ?_ | refine And.intro rfl ?_ | refine aom ?_ | refine Alt.std ?_ | (show Ko_ _ _ _ _; subst hKo_) | refine ctt ?_ | refine cff ?_))
              conv => whnf
              refine ⟨i, rfl, by omega, ?_⟩
              rcases (show i = 0 ∨ i = 1 ∨ i = 2 ∨ i = 3 by omega) with h0 | h0 | h0 | h0
              ·
                rw [show 0 + i * 1 = 0 by omega]
                obtain rfl : f0 = fi := by rw [← hfi, h0]; rfl
                unfold cutW at hnx
                by_cases t1 : f0 < w
                case neg =>
                  rw [decide_eq_false t1, Bool.false_and] at hnx
                  repeat ((conv => whnf); (first | refine Cnd.yes ?_ | refine Cnd.no ?_ | refine And.intro rfl ?_ | refine aom ?_ | refine Alt.std ?_ | (show Ko_ _ _ _ _; subst hKo_) | refine ctt ?_ | refine cff ?_))
                  conv => whnf
                  (refine ⟨(fun s : Nat => ws.length - s) (j + 1), [0, 1, 2, 3, 4, 5, 6, 7, 8, 9, 10, 11], tmk 104 0 ((fun s : Nat => [(0, .ptr 0 0 0 0), (2, .v .nilIface), (3, .v (.int .i64 p)), (4, .ptr 9 0 0 0), (5, .v (.int .i64 lr)), (6, .ptr 10 0 0 0), (7, .v (.int .i64 i)), (8, .v (.int .u32 (byX x i))), (14, .slc 2 2 0 O.length), (15, .v (.int .i64 O.length)), (16, .v (.int .i64 p)), (55, .slc 11 1 0 z), (56, .v (.int .i64 z)), (57, .v (.int .i64 i)), (67, .rsl y), (68, .v (.int .i64 ws.length)), (69, .v (.int .i64 s))]) (j + 1)), (fun s : Nat => chk true eh eo eb H O P Q r1 r2 N1 N2 bl ++ [Ent.cells 41 [.v (.int .i64 r.1), .v (.int .i64 r.2)], Ent.cells 104 [.v (.int .i64 f0), .v (.int .i64 f1), .v (.int .i64 f2), .v (.int .i64 f3)], .row true 36 [.int .u32] ((byL x z).map urow)]) (j + 1), ?_, ?_⟩; focus (first | (simp only []; omega) | omega))
                  repeat ((conv => whnf); (first | refine Cnd.yes ?_ | refine Cnd.no ?_ | refine And.intro rfl ?_ | refine aom ?_ | refine Alt.std ?_ | (show Ko_ _ _ _ _; subst hKo_)))
                  conv => whnf
                  exact ⟨j + 1, ⟨hjn, hnx⟩, rfl, rfl, (tmkK_eq _ _ _ _).mpr rfl, rfl⟩
                rw [decide_eq_true t1, Bool.true_and] at hnx
                by_cases t2 : w < p
                case neg =>
                  rw [decide_eq_false t2, Bool.false_and] at hnx
                  repeat ((conv => whnf); (first | refine Cnd.yes ?_ | refine Cnd.no ?_ | refine And.intro rfl ?_ | refine aom ?_ | refine Alt.std ?_ | (show Ko_ _ _ _ _; subst hKo_) | refine ctt ?_ | refine cff ?_))
                  conv => whnf
                  (refine ⟨(fun s : Nat => ws.length - s) (j + 1), [0, 1, 2, 3, 4, 5, 6, 7, 8, 9, 10, 11], tmk 104 0 ((fun s : Nat => [(0, .ptr 0 0 0 0), (2, .v .nilIface), (3, .v (.int .i64 p)), (4, .ptr 9 0 0 0), (5, .v (.int .i64 lr)), (6, .ptr 10 0 0 0), (7, .v (.int .i64 i)), (8, .v (.int .u32 (byX x i))), (14, .slc 2 2 0 O.length), (15, .v (.int .i64 O.length)), (16, .v (.int .i64 p)), (55, .slc 11 1 0 z), (56, .v (.int .i64 z)), (57, .v (.int .i64 i)), (67, .rsl y), (68, .v (.int .i64 ws.length)), (69, .v (.int .i64 s))]) (j + 1)), (fun s : Nat => chk true eh eo eb H O P Q r1 r2 N1 N2 bl ++ [Ent.cells 41 [.v (.int .i64 r.1), .v (.int .i64 r.2)], Ent.cells 104 [.v (.int .i64 f0), .v (.int .i64 f1), .v (.int .i64 f2), .v (.int .i64 f3)], .row true 36 [.int .u32] ((byL x z).map urow)]) (j + 1), ?_, ?_⟩; focus (first | (simp only []; omega) | omega))
                  repeat ((conv => whnf); (first | refine Cnd.yes ?_ | refine Cnd.no ?_ | refine And.intro rfl ?_ | refine aom ?_ | refine Alt.std ?_ | (show Ko_ _ _ _ _; subst hKo_)))
                  conv => whnf
                  exact ⟨j + 1, ⟨hjn, hnx⟩, rfl, rfl, (tmkK_eq _ _ _ _).mpr rfl, rfl⟩
                rw [decide_eq_true t2, Bool.true_and] at hnx
                by_cases t3 : (O.getD w.toNat (0, 0)).1 = r.1
                · rw [decide_eq_false (fun h => h t3)] at hnx
                  repeat ((conv => whnf); (first | refine Cnd.yes ?_ | refine Cnd.no ?_ | refine And.intro rfl ?_ | refine aom ?_ | refine Alt.std ?_ | (show Ko_ _ _ _ _; subst hKo_) | refine ctt ?_ | refine cff ?_))
                  conv => whnf
                  rw [g0]
                  repeat ((conv => whnf); (first | refine Cnd.yes ?_ | refine Cnd.no ?_ | refine And.intro rfl ?_ | refine aom ?_ | refine Alt.std ?_ | (show Ko_ _ _ _ _; subst hKo_) | refine ctt ?_ | refine cff ?_))
                  conv => whnf
                  (refine ⟨(fun s : Nat => ws.length - s) (j + 1), [0, 1, 2, 3, 4, 5, 6, 7, 8, 9, 10, 11], tmk 104 0 ((fun s : Nat => [(0, .ptr 0 0 0 0), (2, .v .nilIface), (3, .v (.int .i64 p)), (4, .ptr 9 0 0 0), (5, .v (.int .i64 lr)), (6, .ptr 10 0 0 0), (7, .v (.int .i64 i)), (8, .v (.int .u32 (byX x i))), (14, .slc 2 2 0 O.length), (15, .v (.int .i64 O.length)), (16, .v (.int .i64 p)), (55, .slc 11 1 0 z), (56, .v (.int .i64 z)), (57, .v (.int .i64 i)), (67, .rsl y), (68, .v (.int .i64 ws.length)), (69, .v (.int .i64 s))]) (j + 1)), (fun s : Nat => chk true eh eo eb H O P Q r1 r2 N1 N2 bl ++ [Ent.cells 41 [.v (.int .i64 r.1), .v (.int .i64 r.2)], Ent.cells 104 [.v (.int .i64 f0), .v (.int .i64 f1), .v (.int .i64 f2), .v (.int .i64 f3)], .row true 36 [.int .u32] ((byL x z).map urow)]) (j + 1), ?_, ?_⟩; focus (first | (simp only []; omega) | omega))
                  repeat ((conv => whnf); (first | refine Cnd.yes ?_ | refine Cnd.no ?_ | refine And.intro rfl ?_ | refine aom ?_ | refine Alt.std ?_ | (show Ko_ _ _ _ _; subst hKo_)))
                  conv => whnf
                  exact ⟨j + 1, ⟨hjn, hnx⟩, rfl, rfl, (tmkK_eq _ _ _ _).mpr rfl, rfl⟩
                · have hbt : badA H O W F p = true := by
                    rw [hbad]
                    refine anyB_true hin2 ?_
                    rw [hcIi]
                    refine List.any_eq_true.2 ⟨w, hmw, ?_⟩
                    unfold cutW
                    rw [decide_eq_true t1, decide_eq_true t2, decide_eq_true t3]
                    rfl
                  repeat ((conv => whnf); (first | refine Cnd.yes ?_ | refine Cnd.no ?_ | refine And.intro rfl ?_ | refine aom ?_ | refine Alt.std ?_ | (show Ko_ _ _ _ _; subst hKo_) | refine ctt ?_ | refine cff ?_))
                  conv => whnf
                  rw [g0]
                  repeat ((conv => whnf); (first | refine Cnd.yes ?_ | refine Cnd.no ?_ | refine And.intro rfl ?_ | refine aom ?_ | refine Alt.std ?_ | (show Ko_ _ _ _ _; subst hKo_) | refine ctt ?_ | refine cff ?_))
                  conv => whnf
                  refine ⟨_, hS.g 2 (by omega), ?_⟩
                  repeat ((conv => whnf); (first | refine Cnd.yes ?_ | refine Cnd.no ?_ | refine And.intro rfl ?_ | refine aom ?_ | refine Alt.std ?_ | (show Ko_ _ _ _ _; subst hKo_) | refine ctt ?_ | refine cff ?_))
                  conv => whnf
                  refine ⟨[0, 1, 2, 3, 4, 5, 6, 7, 8, 12], .ifc 97 (.ptr 9 0 0 0), chk true eh eo eb H O P Q r1 r2 N1 N2 bl ++ [atE ad 9 p], ?_⟩
                  repeat ((conv => whnf); (first | refine Cnd.yes ?_ | refine Cnd.no ?_ | refine And.intro rfl ?_ | refine aom ?_ | refine Alt.std ?_ | (show Ko_ _ _ _ _; subst hKo_)))
                  conv => whnf
                  exact hK2 p hpn hbt hall
              ·
                rw [show 0 + i * 1 = 1 by omega]
                obtain rfl : f1 = fi := by rw [← hfi, h0]; rfl
                unfold cutW at hnx
                by_cases t1 : f1 < w
                case neg =>
                  rw [decide_eq_false t1, Bool.false_and] at hnx
                  repeat ((conv => whnf); (first | refine Cnd.yes ?_ | refine Cnd.no ?_ | refine And.intro rfl ?_ | refine aom ?_ | refine Alt.std ?_ | (show Ko_ _ _ _ _; subst hKo_) | refine ctt ?_ | refine cff ?_))
                  conv => whnf
                  (refine ⟨(fun s : Nat => ws.length - s) (j + 1), [0, 1, 2, 3, 4, 5, 6, 7, 8, 9, 10, 11], tmk 104 0 ((fun s : Nat => [(0, .ptr 0 0 0 0), (2, .v .nilIface), (3, .v (.int .i64 p)), (4, .ptr 9 0 0 0), (5, .v (.int .i64 lr)), (6, .ptr 10 0 0 0), (7, .v (.int .i64 i)), (8, .v (.int .u32 (byX x i))), (14, .slc 2 2 0 O.length), (15, .v (.int .i64 O.length)), (16, .v (.int .i64 p)), (55, .slc 11 1 0 z), (56, .v (.int .i64 z)), (57, .v (.int .i64 i)), (67, .rsl y), (68, .v (.int .i64 ws.length)), (69, .v (.int .i64 s))]) (j + 1)), (fun s : Nat => chk true eh eo eb H O P Q r1 r2 N1 N2 bl ++ [Ent.cells 41 [.v (.int .i64 r.1), .v (.int .i64 r.2)], Ent.cells 104 [.v (.int .i64 f0), .v (.int .i64 f1), .v (.int .i64 f2), .v (.int .i64 f3)], .row true 36 [.int .u32] ((byL x z).map urow)]) (j + 1), ?_, ?_⟩; focus (first | (simp only []; omega) | omega))
                  repeat ((conv => whnf); (first | refine Cnd.yes ?_ | refine Cnd.no ?_ | refine And.intro rfl ?_ | refine aom ?_ | refine Alt.std ?_ | (show Ko_ _ _ _ _; subst hKo_)))
                  conv => whnf
                  exact ⟨j + 1, ⟨hjn, hnx⟩, rfl, rfl, (tmkK_eq _ _ _ _).mpr rfl, rfl⟩
                rw [decide_eq_true t1, Bool.true_and] at hnx
                by_cases t2 : w < p
                case neg =>
                  rw [decide_eq_false t2, Bool.false_and] at hnx
                  repeat ((conv => whnf); (first | refine Cnd.yes ?_ | refine Cnd.no ?_ | refine And.intro rfl ?_ | refine aom ?_ | refine Alt.std ?_ | (show Ko_ _ _ _ _; subst hKo_) | refine ctt ?_ | refine cff ?_))
                  conv => whnf
                  (refine ⟨(fun s : Nat => ws.length - s) (j + 1), [0, 1, 2, 3, 4, 5, 6, 7, 8, 9, 10, 11], tmk 104 0 ((fun s : Nat => [(0, .ptr 0 0 0 0), (2, .v .nilIface), (3, .v (.int .i64 p)), (4, .ptr 9 0 0 0), (5, .v (.int .i64 lr)), (6, .ptr 10 0 0 0), (7, .v (.int .i64 i)), (8, .v (.int .u32 (byX x i))), (14, .slc 2 2 0 O.length), (15, .v (.int .i64 O.length)), (16, .v (.int .i64 p)), (55, .slc 11 1 0 z), (56, .v (.int .i64 z)), (57, .v (.int .i64 i)), (67, .rsl y), (68, .v (.int .i64 ws.length)), (69, .v (.int .i64 s))]) (j + 1)), (fun s : Nat => chk true eh eo eb H O P Q r1 r2 N1 N2 bl ++ [Ent.cells 41 [.v (.int .i64 r.1), .v (.int .i64 r.2)], Ent.cells 104 [.v (.int .i64 f0), .v (.int .i64 f1), .v (.int .i64 f2), .v (.int .i64 f3)], .row true 36 [.int .u32] ((byL x z).map urow)]) (j + 1), ?_, ?_⟩; focus (first | (simp only []; omega) | omega))
                  repeat ((conv => whnf); (first | refine Cnd.yes ?_ | refine Cnd.no ?_ | refine And.intro rfl ?_ | refine aom ?_ | refine Alt.std ?_ | (show Ko_ _ _ _ _; subst hKo_)))
                  conv => whnf
                  exact ⟨j + 1, ⟨hjn, hnx⟩, rfl, rfl, (tmkK_eq _ _ _ _).mpr rfl, rfl⟩
                rw [decide_eq_true t2, Bool.true_and] at hnx
                by_cases t3 : (O.getD w.toNat (0, 0)).1 = r.1
                · rw [decide_eq_false (fun h => h t3)] at hnx
                  repeat ((conv => whnf); (first | refine Cnd.yes ?_ | refine Cnd.no ?_ | refine And.intro rfl ?_ | refine aom ?_ | refine Alt.std ?_ | (show Ko_ _ _ _ _; subst hKo_) | refine ctt ?_ | refine cff ?_))
                  conv => whnf
                  rw [g0]
                  repeat ((conv => whnf); (first | refine Cnd.yes ?_ | refine Cnd.no ?_ | refine And.intro rfl ?_ | refine aom ?_ | refine Alt.std ?_ | (show Ko_ _ _ _ _; subst hKo_) | refine ctt ?_ | refine cff ?_))
                  conv => whnf
                  (refine ⟨(fun s : Nat => ws.length - s) (j + 1), [0, 1, 2, 3, 4, 5, 6, 7, 8, 9, 10, 11], tmk 104 0 ((fun s : Nat => [(0, .ptr 0 0 0 0), (2, .v .nilIface), (3, .v (.int .i64 p)), (4, .ptr 9 0 0 0), (5, .v (.int .i64 lr)), (6, .ptr 10 0 0 0), (7, .v (.int .i64 i)), (8, .v (.int .u32 (byX x i))), (14, .slc 2 2 0 O.length), (15, .v (.int .i64 O.length)), (16, .v (.int .i64 p)), (55, .slc 11 1 0 z), (56, .v (.int .i64 z)), (57, .v (.int .i64 i)), (67, .rsl y), (68, .v (.int .i64 ws.length)), (69, .v (.int .i64 s))]) (j + 1)), (fun s : Nat => chk true eh eo eb H O P Q r1 r2 N1 N2 bl ++ [Ent.cells 41 [.v (.int .i64 r.1), .v (.int .i64 r.2)], Ent.cells 104 [.v (.int .i64 f0), .v (.int .i64 f1), .v (.int .i64 f2), .v (.int .i64 f3)], .row true 36 [.int .u32] ((byL x z).map urow)]) (j + 1), ?_, ?_⟩; focus (first | (simp only []; omega) | omega))
                  repeat ((conv => whnf); (first | refine Cnd.yes ?_ | refine Cnd.no ?_ | refine And.intro rfl ?_ | refine aom ?_ | refine Alt.std ?_ | (show Ko_ _ _ _ _; subst hKo_)))
                  conv => whnf
                  exact ⟨j + 1, ⟨hjn, hnx⟩, rfl, rfl, (tmkK_eq _ _ _ _).mpr rfl, rfl⟩
                · have hbt : badA H O W F p = true := by
                    rw [hbad]
                    refine anyB_true hin2 ?_
                    rw [hcIi]
                    refine List.any_eq_true.2 ⟨w, hmw, ?_⟩
                    unfold cutW
                    rw [decide_eq_true t1, decide_eq_true t2, decide_eq_true t3]
                    rfl
                  repeat ((conv => whnf); (first | refine Cnd.yes ?_ | refine Cnd.no ?_ | refine And.intro rfl ?_ | refine aom ?_ | refine Alt.std ?_ | (show Ko_ _ _ _ _; subst hKo_) | refine ctt ?_ | refine cff ?_))
                  conv => whnf
                  rw [g0]
                  repeat ((conv => whnf); (first | refine Cnd.yes ?_ | refine Cnd.no ?_ | refine And.intro rfl ?_ | refine aom ?_ | refine Alt.std ?_ | (show Ko_ _ _ _ _; subst hKo_) | refine ctt ?_ | refine cff ?_))
                  conv => whnf
                  refine ⟨_, hS.g 2 (by omega), ?_⟩
                  repeat ((conv => whnf); (first | refine Cnd.yes ?_ | refine Cnd.no ?_ | refine And.intro rfl ?_ | refine aom ?_ | refine Alt.std ?_ | (show Ko_ _ _ _ _; subst hKo_) | refine ctt ?_ | refine cff ?_))
                  conv => whnf
                  refine ⟨[0, 1, 2, 3, 4, 5, 6, 7, 8, 12], .ifc 97 (.ptr 9 0 0 0), chk true eh eo eb H O P Q r1 r2 N1 N2 bl ++ [atE ad 9 p], ?_⟩
                  repeat ((conv => whnf); (first | refine Cnd.yes ?_ | refine Cnd.no ?_ | refine And.intro rfl ?_ | refine aom ?_ | refine Alt.std ?_ | (show Ko_ _ _ _ _; subst hKo_)))
                  conv => whnf
                  exact hK2 p hpn hbt hall
              ·
                rw [show 0 + i * 1 = 2 by omega]
                obtain rfl : f2 = fi := by rw [← hfi, h0]; rfl
                unfold cutW at hnx
                by_cases t1 : f2 < w
                case neg =>
                  rw [decide_eq_false t1, Bool.false_and] at hnx
                  repeat ((conv => whnf); (first | refine Cnd.yes ?_ | refine Cnd.no ?_ | refine And.intro rfl ?_ | refine aom ?_ | refine Alt.std ?_ | (show Ko_ _ _ _ _; subst hKo_) | refine ctt ?_ | refine cff ?_))
                  conv => whnf
                  (refine ⟨(fun s : Nat => ws.length - s) (j + 1), [0, 1, 2, 3, 4, 5, 6, 7, 8, 9, 10, 11], tmk 104 0 ((fun s : Nat => [(0, .ptr 0 0 0 0), (2, .v .nilIface), (3, .v (.int .i64 p)), (4, .ptr 9 0 0 0), (5, .v (.int .i64 lr)), (6, .ptr 10 0 0 0), (7, .v (.int .i64 i)), (8, .v (.int .u32 (byX x i))), (14, .slc 2 2 0 O.length), (15, .v (.int .i64 O.length)), (16, .v (.int .i64 p)), (55, .slc 11 1 0 z), (56, .v (.int .i64 z)), (57, .v (.int .i64 i)), (67, .rsl y), (68, .v (.int .i64 ws.length)), (69, .v (.int .i64 s))]) (j + 1)), (fun s : Nat => chk true eh eo eb H O P Q r1 r2 N1 N2 bl ++ [Ent.cells 41 [.v (.int .i64 r.1), .v (.int .i64 r.2)], Ent.cells 104 [.v (.int .i64 f0), .v (.int .i64 f1), .v (.int .i64 f2), .v (.int .i64 f3)], .row true 36 [.int .u32] ((byL x z).map urow)]) (j + 1), ?_, ?_⟩; focus (first | (simp only []; omega) | omega))
                  repeat ((conv => whnf); (first | refine Cnd.yes ?_ | refine Cnd.no ?_ | refine And.intro rfl ?_ | refine aom ?_ | refine Alt.std ?_ | (show Ko_ _ _ _ _; subst hKo_)))
                  conv => whnf
                  exact ⟨j + 1, ⟨hjn, hnx⟩, rfl, rfl, (tmkK_eq _ _ _ _).mpr rfl, rfl⟩
                rw [decide_eq_true t1, Bool.true_and] at hnx
                by_cases t2 : w < p
                case neg =>
                  rw [decide_eq_false t2, Bool.false_and] at hnx
                  repeat ((conv => whnf); (first | refine Cnd.yes ?_ | refine Cnd.no ?_ | refine And.intro rfl ?_ | refine aom ?_ | refine Alt.std ?_ | (show Ko_ _ _ _ _; subst hKo_) | refine ctt ?_ | refine cff ?_))
                  conv => whnf
                  (refine ⟨(fun s : Nat => ws.length - s) (j + 1), [0, 1, 2, 3, 4, 5, 6, 7, 8, 9, 10, 11], tmk 104 0 ((fun s : Nat => [(0, .ptr 0 0 0 0), (2, .v .nilIface), (3, .v (.int .i64 p)), (4, .ptr 9 0 0 0), (5, .v (.int .i64 lr)), (6, .ptr 10 0 0 0), (7, .v (.int .i64 i)), (8, .v (.int .u32 (byX x i))), (14, .slc 2 2 0 O.length), (15, .v (.int .i64 O.length)), (16, .v (.int .i64 p)), (55, .slc 11 1 0 z), (56, .v (.int .i64 z)), (57, .v (.int .i64 i)), (67, .rsl y), (68, .v (.int .i64 ws.length)), (69, .v (.int .i64 s))]) (j + 1)), (fun s : Nat => chk true eh eo eb H O P Q r1 r2 N1 N2 bl ++ [Ent.cells 41 [.v (.int .i64 r.1), .v (.int .i64 r.2)], Ent.cells 104 [.v (.int .i64 f0), .v (.int .i64 f1), .v (.int .i64 f2), .v (.int .i64 f3)], .row true 36 [.int .u32] ((byL x z).map urow)]) (j + 1), ?_, ?_⟩; focus (first | (simp only []; omega) | omega))
                  repeat ((conv => whnf); (first | refine Cnd.yes ?_ | refine Cnd.no ?_ | refine And.intro rfl ?_ | refine aom ?_ | refine Alt.std ?_ | (show Ko_ _ _ _ _; subst hKo_)))
                  conv => whnf
                  exact ⟨j + 1, ⟨hjn, hnx⟩, rfl, rfl, (tmkK_eq _ _ _ _).mpr rfl, rfl⟩
                rw [decide_eq_true t2, Bool.true_and] at hnx
                by_cases t3 : (O.getD w.toNat (0, 0)).1 = r.1
                · rw [decide_eq_false (fun h => h t3)] at hnx
                  repeat ((conv => whnf); (first | refine Cnd.yes ?_ | refine Cnd.no ?_ | refine And.intro rfl ?_ | refine aom ?_ | refine Alt.std ?_ | (show Ko_ _ _ _ _; subst hKo_) | refine ctt ?_ | refine cff ?_))
                  conv => whnf
                  rw [g0]
                  repeat ((conv => whnf); (first | refine Cnd.yes ?_ | refine Cnd.no ?_ | refine And.intro rfl ?_ | refine aom ?_ | refine Alt.std ?_ | (show Ko_ _ _ _ _; subst hKo_) | refine ctt ?_ | refine cff ?_))
                  conv => whnf
                  (refine ⟨(fun s : Nat => ws.length - s) (j + 1), [0, 1, 2, 3, 4, 5, 6, 7, 8, 9, 10, 11], tmk 104 0 ((fun s : Nat => [(0, .ptr 0 0 0 0), (2, .v .nilIface), (3, .v (.int .i64 p)), (4, .ptr 9 0 0 0), (5, .v (.int .i64 lr)), (6, .ptr 10 0 0 0), (7, .v (.int .i64 i)), (8, .v (.int .u32 (byX x i))), (14, .slc 2 2 0 O.length), (15, .v (.int .i64 O.length)), (16, .v (.int .i64 p)), (55, .slc 11 1 0 z), (56, .v (.int .i64 z)), (57, .v (.int .i64 i)), (67, .rsl y), (68, .v (.int .i64 ws.length)), (69, .v (.int .i64 s))]) (j + 1)), (fun s : Nat => chk true eh eo eb H O P Q r1 r2 N1 N2 bl ++ [Ent.cells 41 [.v (.int .i64 r.1), .v (.int .i64 r.2)], Ent.cells 104 [.v (.int .i64 f0), .v (.int .i64 f1), .v (.int .i64 f2), .v (.int .i64 f3)], .row true 36 [.int .u32] ((byL x z).map urow)]) (j + 1), ?_, ?_⟩; focus (first | (simp only []; omega) | omega))
                  repeat ((conv => whnf); (first | refine Cnd.yes ?_ | refine Cnd.no ?_ | refine And.intro rfl ?_ | refine aom ?_ | refine Alt.std ?_ | (show Ko_ _ _ _ _; subst hKo_)))
                  conv => whnf
                  exact ⟨j + 1, ⟨hjn, hnx⟩, rfl, rfl, (tmkK_eq _ _ _ _).mpr rfl, rfl⟩
                · have hbt : badA H O W F p = true := by
                    rw [hbad]
                    refine anyB_true hin2 ?_
                    rw [hcIi]
                    refine List.any_eq_true.2 ⟨w, hmw, ?_⟩
                    unfold cutW
                    rw [decide_eq_true t1, decide_eq_true t2, decide_eq_true t3]
                    rfl
                  repeat ((conv => whnf); (first | refine Cnd.yes ?_ | refine Cnd.no ?_ | refine And.intro rfl ?_ | refine aom ?_ | refine Alt.std ?_ | (show Ko_ _ _ _ _; subst hKo_) | refine ctt ?_ | refine cff ?_))
                  conv => whnf
                  rw [g0]
                  repeat ((conv => whnf); (first | refine Cnd.yes ?_ | refine Cnd.no ?_ | refine And.intro rfl ?_ | refine aom ?_ | refine Alt.std ?_ | (show Ko_ _ _ _ _; subst hKo_) | refine ctt ?_ | refine cff ?_))
                  conv => whnf
                  refine ⟨_, hS.g 2 (by omega), ?_⟩
                  repeat ((conv => whnf); (first | refine Cnd.yes ?_ | refine Cnd.no ?_ | refine And.intro rfl ?_ | refine aom ?_ | refine Alt.std ?_ | (show Ko_ _ _ _ _; subst hKo_) | refine ctt ?_ | refine cff ?_))
                  conv => whnf
                  refine ⟨[0, 1, 2, 3, 4, 5, 6, 7, 8, 12], .ifc 97 (.ptr 9 0 0 0), chk true eh eo eb H O P Q r1 r2 N1 N2 bl ++ [atE ad 9 p], ?_⟩
                  repeat ((conv => whnf); (first | refine Cnd.yes ?_ | refine Cnd.no ?_ | refine And.intro rfl ?_ | refine aom ?_ | refine Alt.std ?_ | (show Ko_ _ _ _ _; subst hKo_)))
                  conv => whnf
                  exact hK2 p hpn hbt hall
              ·
                rw [show 0 + i * 1 = 3 by omega]
                obtain rfl : f3 = fi := by rw [← hfi, h0]; rfl
                unfold cutW at hnx
                by_cases t1 : f3 < w
                case neg =>
                  rw [decide_eq_false t1, Bool.false_and] at hnx
                  repeat ((conv => whnf); (first | refine Cnd.yes ?_ | refine Cnd.no ?_ | refine And.intro rfl ?_ | refine aom ?_ | refine Alt.std ?_ | (show Ko_ _ _ _ _; subst hKo_) | refine ctt ?_ | refine cff ?_))
                  conv => whnf
                  (refine ⟨(fun s : Nat => ws.length - s) (j + 1), [0, 1, 2, 3, 4, 5, 6, 7, 8, 9, 10, 11], tmk 104 0 ((fun s : Nat => [(0, .ptr 0 0 0 0), (2, .v .nilIface), (3, .v (.int .i64 p)), (4, .ptr 9 0 0 0), (5, .v (.int .i64 lr)), (6, .ptr 10 0 0 0), (7, .v (.int .i64 i)), (8, .v (.int .u32 (byX x i))), (14, .slc 2 2 0 O.length), (15, .v (.int .i64 O.length)), (16, .v (.int .i64 p)), (55, .slc 11 1 0 z), (56, .v (.int .i64 z)), (57, .v (.int .i64 i)), (67, .rsl y), (68, .v (.int .i64 ws.length)), (69, .v (.int .i64 s))]) (j + 1)), (fun s : Nat => chk true eh eo eb H O P Q r1 r2 N1 N2 bl ++ [Ent.cells 41 [.v (.int .i64 r.1), .v (.int .i64 r.2)], Ent.cells 104 [.v (.int .i64 f0), .v (.int .i64 f1), .v (.int .i64 f2), .v (.int .i64 f3)], .row true 36 [.int .u32] ((byL x z).map urow)]) (j + 1), ?_, ?_⟩; focus (first | (simp only []; omega) | omega))
                  repeat ((conv => whnf); (first | refine Cnd.yes ?_ | refine Cnd.no ?_ | refine And.intro rfl ?_ | refine aom ?_ | refine Alt.std ?_ | (show Ko_ _ _ _ _; subst hKo_)))
                  conv => whnf
                  exact ⟨j + 1, ⟨hjn, hnx⟩, rfl, rfl, (tmkK_eq _ _ _ _).mpr rfl, rfl⟩
                rw [decide_eq_true t1, Bool.true_and] at hnx
                by_cases t2 : w < p
                case neg =>
                  rw [decide_eq_false t2, Bool.false_and] at hnx
                  repeat ((conv => whnf); (first | refine Cnd.yes ?_ | refine Cnd.no ?_ | refine And.intro rfl ?_ | refine aom ?_ | refine Alt.std ?_ | (show Ko_ _ _ _ _; subst hKo_) | refine ctt ?_ | refine cff ?_))
                  conv => whnf
                  (refine ⟨(fun s : Nat => ws.length - s) (j + 1), [0, 1, 2, 3, 4, 5, 6, 7, 8, 9, 10, 11], tmk 104 0 ((fun s : Nat => [(0, .ptr 0 0 0 0), (2, .v .nilIface), (3, .v (.int .i64 p)), (4, .ptr 9 0 0 0), (5, .v (.int .i64 lr)), (6, .ptr 10 0 0 0), (7, .v (.int .i64 i)), (8, .v (.int .u32 (byX x i))), (14, .slc 2 2 0 O.length), (15, .v (.int .i64 O.length)), (16, .v (.int .i64 p)), (55, .slc 11 1 0 z), (56, .v (.int .i64 z)), (57, .v (.int .i64 i)), (67, .rsl y), (68, .v (.int .i64 ws.length)), (69, .v (.int .i64 s))]) (j + 1)), (fun s : Nat => chk true eh eo eb H O P Q r1 r2 N1 N2 bl ++ [Ent.cells 41 [.v (.int .i64 r.1), .v (.int .i64 r.2)], Ent.cells 104 [.v (.int .i64 f0), .v (.int .i64 f1), .v (.int .i64 f2), .v (.int .i64 f3)], .row true 36 [.int .u32] ((byL x z).map urow)]) (j + 1), ?_, ?_⟩; focus (first | (simp only []; omega) | omega))
                  repeat ((conv => whnf); (first | refine Cnd.yes ?_ | refine Cnd.no ?_ | refine And.intro rfl ?_ | refine aom ?_ | refine Alt.std ?_ | (show Ko_ _ _ _ _; subst hKo_)))
                  conv => whnf
                  exact ⟨j + 1, ⟨hjn, hnx⟩, rfl, rfl, (tmkK_eq _ _ _ _).mpr rfl, rfl⟩
                rw [decide_eq_true t2, Bool.true_and] at hnx
                by_cases t3 : (O.getD w.toNat (0, 0)).1 = r.1
                · rw [decide_eq_false (fun h => h t3)] at hnx
                  repeat ((conv => whnf); (first | refine Cnd.yes ?_ | refine Cnd.no ?_ | refine And.intro rfl ?_ | refine aom ?_ | refine Alt.std ?_ | (show Ko_ _ _ _ _; subst hKo_) | refine ctt ?_ | refine cff ?_))
                  conv => whnf
                  rw [g0]
                  repeat ((conv => whnf); (first | refine Cnd.yes ?_ | refine Cnd.no ?_ | refine And.intro rfl ?_ | refine aom ?_ | refine Alt.std ?_ | (show Ko_ _ _ _ _; subst hKo_) | refine ctt ?_ | refine cff ?_))
                  conv => whnf
                  (refine ⟨(fun s : Nat => ws.length - s) (j + 1), [0, 1, 2, 3, 4, 5, 6, 7, 8, 9, 10, 11], tmk 104 0 ((fun s : Nat => [(0, .ptr 0 0 0 0), (2, .v .nilIface), (3, .v (.int .i64 p)), (4, .ptr 9 0 0 0), (5, .v (.int .i64 lr)), (6, .ptr 10 0 0 0), (7, .v (.int .i64 i)), (8, .v (.int .u32 (byX x i))), (14, .slc 2 2 0 O.length), (15, .v (.int .i64 O.length)), (16, .v (.int .i64 p)), (55, .slc 11 1 0 z), (56, .v (.int .i64 z)), (57, .v (.int .i64 i)), (67, .rsl y), (68, .v (.int .i64 ws.length)), (69, .v (.int .i64 s))]) (j + 1)), (fun s : Nat => chk true eh eo eb H O P Q r1 r2 N1 N2 bl ++ [Ent.cells 41 [.v (.int .i64 r.1), .v (.int .i64 r.2)], Ent.cells 104 [.v (.int .i64 f0), .v (.int .i64 f1), .v (.int .i64 f2), .v (.int .i64 f3)], .row true 36 [.int .u32] ((byL x z).map urow)]) (j + 1), ?_, ?_⟩; focus (first | (simp only []; omega) | omega))
                  repeat ((conv => whnf); (first | refine Cnd.yes ?_ | refine Cnd.no ?_ | refine And.intro rfl ?_ | refine aom ?_ | refine Alt.std ?_ | (show Ko_ _ _ _ _; subst hKo_)))
                  conv => whnf
                  exact ⟨j + 1, ⟨hjn, hnx⟩, rfl, rfl, (tmkK_eq _ _ _ _).mpr rfl, rfl⟩
                · have hbt : badA H O W F p = true := by
                    rw [hbad]
                    refine anyB_true hin2 ?_
                    rw [hcIi]
                    refine List.any_eq_true.2 ⟨w, hmw, ?_⟩
                    unfold cutW
                    rw [decide_eq_true t1, decide_eq_true t2, decide_eq_true t3]
                    rfl
                  repeat ((conv => whnf); (first | refine Cnd.yes ?_ | refine Cnd.no ?_ | refine And.intro rfl ?_ | refine aom ?_ | refine Alt.std ?_ | (show Ko_ _ _ _ _; subst hKo_) | refine ctt ?_ | refine cff ?_))
                  conv => whnf
                  rw [g0]
                  repeat ((conv => whnf); (first | refine Cnd.yes ?_ | refine Cnd.no ?_ | refine And.intro rfl ?_ | refine aom ?_ | refine Alt.std ?_ | (show Ko_ _ _ _ _; subst hKo_) | refine ctt ?_ | refine cff ?_))
                  conv => whnf
                  refine ⟨_, hS.g 2 (by omega), ?_⟩
                  repeat ((conv => whnf); (first | refine Cnd.yes ?_ | refine Cnd.no ?_ | refine And.intro rfl ?_ | refine aom ?_ | refine Alt.std ?_ | (show Ko_ _ _ _ _; subst hKo_) | refine ctt ?_ | refine cff ?_))
                  conv => whnf
                  refine ⟨[0, 1, 2, 3, 4, 5, 6, 7, 8, 12], .ifc 97 (.ptr 9 0 0 0), chk true eh eo eb H O P Q r1 r2 N1 N2 bl ++ [atE ad 9 p], ?_⟩
                  repeat ((conv => whnf); (first | refine Cnd.yes ?_ | refine Cnd.no ?_ | refine And.intro rfl ?_ | refine aom ?_ | refine Alt.std ?_ | (show Ko_ _ _ _ _; subst hKo_)))
                  conv => whnf
                  exact hK2 p hpn hbt hall
            · obtain rfl : j = ws.length := by have := of_decide_eq_false hge3; omega
              rw [List.take_length] at hcj
              have hcif : cutI H O W F p r lr i = false := by rw [hcIi]; exact hcj
              repeat ((conv => whnf); (first | refine Cnd.yes ?_ | refine Cnd.no ?_ | refine And.intro rfl ?_ | refine aom ?_ | refine Alt.std ?_ | (show Ko_ _ _ _ _; subst hKo_) | refine ctt ?_ | refine cff ?_))
              conv => whnf
              (refine ⟨(fun s : Nat => z - s) (i + 1), [0, 1, 2, 3, 4, 5, 6, 7, 8, 9, 10, 11], tmk 104 0 ((fun s : Nat => [(0, .ptr 0 0 0 0), (2, .v .nilIface), (3, .v (.int .i64 p)), (4, .ptr 9 0 0 0), (5, .v (.int .i64 lr)), (6, .ptr 10 0 0 0), (14, .slc 2 2 0 O.length), (15, .v (.int .i64 O.length)), (16, .v (.int .i64 p)), (55, .slc 11 1 0 z), (56, .v (.int .i64 z)), (57, .v (.int .i64 s))]) (i + 1)), (fun s : Nat => chk true eh eo eb H O P Q r1 r2 N1 N2 bl ++ [Ent.cells 41 [.v (.int .i64 r.1), .v (.int .i64 r.2)], Ent.cells 104 [.v (.int .i64 f0), .v (.int .i64 f1), .v (.int .i64 f2), .v (.int .i64 f3)], .row true 36 [.int .u32] ((byL x z).map urow)]) (i + 1), ?_, ?_⟩; focus (first | (simp only []; omega) | omega))
              repeat ((conv => whnf); (first | refine Cnd.yes ?_ | refine Cnd.no ?_ | refine And.intro rfl ?_ | refine aom ?_ | refine Alt.std ?_ | (show Ko_ _ _ _ _; subst hKo_)))
              conv => whnf
              exact ⟨i + 1, ⟨hin2, fun q hq => by rcases Nat.lt_succ_iff_lt_or_eq.1 hq with h | h; exact hci q h; rw [h]; exact hcif⟩, rfl, rfl, (tmkK_eq _ _ _ _).mpr rfl, rfl⟩
        · obtain rfl : i = z := by have := of_decide_eq_false hge2; omega
          have hbf : badA H O W F p = false := by rw [hbad]; exact anyB_false hci
          repeat ((conv => whnf); (first | refine Cnd.yes ?_ | refine Cnd.no ?_ | refine And.intro rfl ?_ | refine aom ?_ | refine Alt.std ?_ | (show Ko_ _ _ _ _; subst hKo_) | refine ctt ?_ | refine cff ?_))
          conv => whnf
          (refine ⟨(fun s : Nat => O.length - s) (p + 1), [0, 1, 2, 3, 4, 5, 6, 7, 8], tmk 104 0 ((fun s : Nat => [(0, .ptr 0 0 0 0), (2, .v .nilIface), (14, .slc 2 2 0 O.length), (15, .v (.int .i64 O.length)), (16, .v (.int .i64 s))]) (p + 1)), (fun s : Nat => chk true eh eo eb H O P Q r1 r2 N1 N2 bl) (p + 1), ?_, ?_⟩; focus (first | (simp only []; omega) | omega))
          repeat ((conv => whnf); (first | refine Cnd.yes ?_ | refine Cnd.no ?_ | refine And.intro rfl ?_ | refine aom ?_ | refine Alt.std ?_ | (show Ko_ _ _ _ _; subst hKo_)))
          conv => whnf
          exact ⟨p + 1, ⟨hpn, fun q hq => by rcases Nat.lt_succ_iff_lt_or_eq.1 hq with h | h; exact hall q h; rw [h]; exact hbf⟩, rfl, rfl, (tmkK_eq _ _ _ _).mpr rfl, rfl⟩
    · obtain rfl : p = O.length := by have := of_decide_eq_false hge; omega
      repeat ((conv => whnf); (first | refine Cnd.yes ?_ | refine Cnd.no ?_ | refine And.intro rfl ?_ | refine aom ?_ | refine Alt.std ?_ | (show Ko_ _ _ _ _; subst hKo_) | refine ctt ?_ | refine cff ?_))
      conv => whnf
      refine ⟨[0, 1, 2, 3, 4, 5, 6, 7, 8], .v .nilIface, chk true eh eo eb H O P Q r1 r2 N1 N2 bl, ?_⟩
      repeat ((conv => whnf); (first | refine Cnd.yes ?_ | refine Cnd.no ?_ | refine And.intro rfl ?_ | refine aom ?_ | refine Alt.std ?_ | (show Ko_ _ _ _ _; subst hKo_)))
      conv => whnf
      exact hK1 hall
def aloneS : Vc.Spec := fun args hp M K => ∃ (ad : Nat → Addr) (eh eo eb : TypeId) (H : Hs) (O : List Rf) (P Q : List Value) (r1 r2 : Nat) (N1 N2 : HL) (bl : List Int) (W : Int → List Int) (F : Rf → Option (List Int)), args = [.ptr 0 0 0 0] ∧ hp = chk true eh eo eb H O P Q r1 r2 N1 N2 bl ∧ Sents M ad ∧ HIn M H ∧ O.length ≤ 1000000 ∧ (∀ r ∈ O, RefOK H r) ∧ (∀ p ∈ H, p.2.length ≤ 1000) ∧
  (∀ h, h < H.length → ∀ x ∈ (H.getD h default).2, 0 ≤ x.sz ∧ x.sz ≤ 4) ∧ PrIn M P H ∧ WrIn N1 r1 W ∧ WOK W O.length ∧ FrIn N2 r2 F ∧ (∀ q l, F q = some l → l.length = 4) ∧
  ∀ w, FirstAt (badA H O W F) O.length w → K (errV w) (chk true eh eo eb H O P Q r1 r2 N1 N2 bl ++ errH ad 9 w)
theorem alone_ok : SOK Tryd.prog 38 aloneS := by
  refine TOK.weaken (TOK.out (runF_eq GR1_ok mixed at38.1 at38.2 pf38_eq)) fun args hp M K h => ?_
  obtain ⟨ad, eh, eo, eb, H, O, P, Q, r1, r2, N1, N2, bl, W, F, rfl, rfl, h1, h2, h3, h4, h5, h6, h7, h8, h9, h10, h11, h12⟩ := h
  exact alone_run M K ad h1 eh eo eb H O P Q r1 r2 N1 N2 bl W F h2 h3 h4 h5 h6 h7 h8 h9 h10 h11 (fun h => by have := h12 none (.no h); rwa [errH, List.append_nil] at this) (fun p hp h ha => h12 (some p) (.yes p hp h ha))
end Go.Proofs.YtkfkoldaeplckaaDoor
/-
  wmo.Check, walked; its contract.
-/
namespace Go.Proofs.YtkfkoldaeplckaaDoor
open Go Go.Vc
set_option maxRecDepth 100000
set_option linter.unusedSimpArgs false
set_option linter.unusedVariables false
set_option maxHeartbeats 20000000
noncomputable def specsV1 : Nat → Option Vc.Trans := tget [(34, frameT validS), (35, frameM placesT), (36, frameT staysS), (37, frameT valuesS), (38, frameT aloneS)]
noncomputable def GV1 : Nat → Option Vc.Trans := tabG specsV1 (tget tab) 5
theorem GV1_ok : GOK Tryd.prog GV1 := tabG_ok (GOK.cons (frame_ok valid_ok) (GOK.cons (frameM_ok places_ok) (GOK.cons (frame_ok stays_ok) (GOK.cons (frame_ok values_ok) (GOK.cons (frame_ok alone_ok) .nil))))) tab_ok 5
def firstP (f : Nat → Bool) (n : Nat) : Option Nat := (List.range n).find? f
theorem FirstAt.eq {f : Nat → Bool} {n : Nat} {w : Option Nat} (h : FirstAt f n w) : firstP f n = w := by
  unfold firstP
  cases h with
  | no h => rw [List.find?_eq_none]; intro p hp; rw [h p (List.mem_range.1 hp)]; simp
  | yes p hp h ha =>
    rw [List.find?_eq_some_iff_append]
    refine ⟨h, List.range p, (List.range (n - p - 1)).map (· + (p + 1)), ?_, fun q hq => by rw [ha q (List.mem_range.1 hq)]; rfl⟩
    apply List.ext_getElem?
    intro j
    by_cases hj : j < n
    · rw [List.getElem?_range hj]
      rcases Nat.lt_trichotomy j p with h1 | h1 | h1
      · rw [List.getElem?_append_left (by simpa using h1), List.getElem?_range h1]
      · subst h1; rw [List.getElem?_append_right (by simp)]; simp
      · obtain ⟨d, rfl⟩ : ∃ d, j = p + 1 + d := ⟨j - (p + 1), by omega⟩
        rw [List.getElem?_append_right (by simp; omega), List.length_range, show p + 1 + d - p = d + 1 by omega, List.getElem?_cons_succ, List.getElem?_map, List.getElem?_range (by omega)]
        simp; omega
    · rw [List.getElem?_eq_none (by simp; omega), List.getElem?_eq_none (by simp; omega)]
/-- What Check tells: the error's number and its place. -/
def chkE (H : Hs) (O : List Rf) (bl : List Int) : Option (Nat × Nat) :=
  match firstP (stayN H (tabT H O O.length) O) O.length with
  | some p => some (9, p)
  | none => match firstP (badV H O (wN H O O.length) bl) O.length with
    | some p => some (10, p)
    | none => match firstP (badA H O (wN H O O.length) (frN H O (wN H O O.length) O.length)) O.length with
      | some p => some (9, p)
      | none => none
def erV : Option (Nat × Nat) → SV
  | none => .v .nilIface
  | some _ => .ifc 97 (.ptr 4 0 0 0)
def erH (ad : Nat → Addr) : Option (Nat × Nat) → List Ent
  | none => []
  | some x => [atE ad x.1 x.2]
structure CheckOK (H : Hs) (O : List Rf) : Prop where
  v : ValidH H
  fit : ∀ p ∈ H, ∀ x ∈ p.2, Fit x
  sz : ∀ p ∈ H, ∀ x ∈ p.2, 0 ≤ x.sz ∧ x.sz ≤ 4
  ref : ∀ r ∈ O, RefOK H r
  nb : ∀ r ∈ O, (opAt H r).k ≠ 4
  szo : ∀ r ∈ O, SzOK (opAt H r)
  nd : ∀ i j, i < j → j < O.length → O.getD i (0, 0) ≠ O.getD j (0, 0)
  all : allN H H.length ≤ O.length
  len : O.length ≤ 200000
def ckHp (eh eo eb : TypeId) (H : Hs) (O : List Rf) (bl : List Int) : List Ent := [.row true eh [.sl] (H.map hrow), .row true eo [.int .i64, .int .i64] (O.map rrow), .cells 72 [.slc 3 1 0 bl.length], .row true eb [.int .u8] (bl.map brow)]
theorem frN_len (H : Hs) (O : List Rf) (W : Int → List Int) : ∀ n q l, frN H O W n q = some l → l.length = 4
  | 0, q, l, h => by cases h
  | n + 1, q, l, h => by
    unfold frN at h
    dsimp only at h
    split at h
    · cases h; rfl
    · exact frN_len H O W n q l h
theorem tabT_fits (H : Hs) (O : List Rf) (n : Nat) : Fits H (tabT H O n) := ⟨tabT_len H O n, fun h hh => by rw [tabT_get H O n hh]; simp⟩
/-- All that is left is one's own. -/
def ownAll : List Ent → Bool
  | [] => true
  | .row false _ _ _ :: _ => false
  | .rcells _ _ :: _ => false
  | .sub false _ :: _ => false
  | _ :: r => ownAll r
theorem ownAll_get : ∀ {l : List Ent}, ownAll l = true → ∀ (n : Nat) (e : Ent), l[n]? = some e → e = .gone ∨ e.own = true
  | [], _, n, e, h => by simp at h
  | a :: r, ho, 0, e, h => by
    simp at h
    subst h
    cases a with
    | gone => exact .inl rfl
    | cells => exact .inr rfl
    | row o =>
      cases o with
      | false => cases ho
      | true => exact .inr rfl
    | rcells => simp [ownAll] at ho
    | sub o =>
      cases o with
      | false => cases ho
      | true => exact .inr rfl
  | a :: r, ho, n + 1, e, h => by
    refine ownAll_get (l := r) ?_ n e (by simpa using h)
    cases a with
    | gone => exact ho
    | cells => exact ho
    | row o =>
      cases o with
      | false => cases ho
      | true => exact ho
    | rcells => simp [ownAll] at ho
    | sub o =>
      cases o with
      | false => cases ho
      | true => exact ho
/-- What became known is let go again. -/
theorem TOK.shrink {P : Program} {f : FuncId} {T : Vc.Trans} (h : TOK P f T) : TOK P f fun args hp M K => T args hp M fun v hp2 _ => ownAll hp2 = true ∧ K v hp2 M := by
  refine ⟨h.1, fun args hp M K hk ρ F w vs H hD => (h.2 args hp M _ hk ρ F w vs H hD).mono ?_⟩
  rintro e w' ⟨v, he, sv, ρ', hp', M', F', ⟨ho, hK⟩, hl, hx, H', hG, hS, hd⟩
  refine ⟨v, he, sv, ρ', hp', M, F', hK, hl, hx, ⟨fun n e hn => ?_, H'.sep, H'.out, H'.frm, fun k o hk => H'.sub k o (hG.kn k o hk), H'.dom⟩, ⟨hG.fr, FLe.refl M, fun _ _ h => .inl h⟩, hS, hd⟩
  have hE := H'.ent n e hn
  rcases ownAll_get ho n e hn with rfl | hw
  · trivial
  · cases e with
    | gone => trivial
    | cells => exact hE
    | rcells => cases hw
    | row o =>
      cases o with
      | false => cases hw
      | true => exact hE
    | sub o =>
      cases o with
      | false => cases hw
      | true => exact hE
theorem check_run (M : HL) (K : SV → List Ent → HL → Prop) (ad : Nat → Addr) (hS : Sents M ad) (eh eo eb : TypeId) (H : Hs) (O : List Rf) (bl : List Int) (hH : HIn M H) (hC : CheckOK H O) (hK : ∀ M', K (erV (chkE H O bl)) (ckHp eh eo eb H O bl ++ erH ad (chkE H O bl)) M') :
    runF GV1 pf18 [.slc 0 1 0 H.length, .slc 1 2 0 O.length, .fn (.func 33) [] [.ptr 2 0 0 0]] (ckHp eh eo eb H O bl) M fun v hp2 M2 => ∃ m v' hp', Wk (llen (ckHp eh eo eb H O bl)) m [v] hp2 [v'] hp' (K v' hp' M2) := by
  obtain ⟨hV, hfit, hsz, href, hnb, hszo, hnd, hall, hlen⟩ := hC
  have hszr : ∀ r ∈ O, 0 ≤ (opAt H r).sz ∧ (opAt H r).sz ≤ 4 := fun r hr => by have := (hszo r hr).s; omega
  have hwok := wN_ok H O (fun r hr => (hszr r hr).2) O.length (Nat.le_refl _)
  have hWO : WOK (wN H O O.length) O.length := ⟨hwok.1, fun b => by have := hwok.2 b; omega⟩
  repeat ((conv => whnf); (first | refine Cnd.yes ?_ | refine Cnd.no ?_ | refine And.intro rfl ?_ | refine aom ?_ | refine Alt.std ?_ | (show Ko_ _ _ _ _; subst hKo_) | refine ctt ?_ | refine cff ?_))
  conv => whnf
  refine ⟨true, eh, H, rfl, rfl, hH, hV, ?_⟩
  repeat ((conv => whnf); (first | refine Cnd.yes ?_ | refine Cnd.no ?_ | refine And.intro rfl ?_ | refine aom ?_ | refine Alt.std ?_ | (show Ko_ _ _ _ _; subst hKo_) | refine ctt ?_ | refine cff ?_))
  conv => whnf
  intro rA NA hA hA'
  repeat ((conv => whnf); (first | refine Cnd.yes ?_ | refine Cnd.no ?_ | refine And.intro rfl ?_ | refine aom ?_ | refine Alt.std ?_ | (show Ko_ _ _ _ _; subst hKo_) | refine ctt ?_ | refine cff ?_))
  conv => whnf
  intro rB NB hB hB'
  repeat ((conv => whnf); (first | refine Cnd.yes ?_ | refine Cnd.no ?_ | refine And.intro rfl ?_ | refine aom ?_ | refine Alt.std ?_ | (show Ko_ _ _ _ _; subst hKo_) | refine ctt ?_ | refine cff ?_))
  conv => whnf
  refine ⟨eh, eo, eb, H, O, rA, rB, NA, NB, bl, rfl, rfl, hH, hV, hB .two, ⟨fun _ => none, hA _, fun b => .inl ⟨rfl, rfl⟩, fun b b' y z k _ h => (by cases h)⟩, hlen, href, hnb, hnd, hall, hszr, fun P Q N1 N2 M2 hM2 hP hQ hW hF => ?_⟩
  repeat ((conv => whnf); (first | refine Cnd.yes ?_ | refine Cnd.no ?_ | refine And.intro rfl ?_ | refine aom ?_ | refine Alt.std ?_ | (show Ko_ _ _ _ _; subst hKo_) | refine ctt ?_ | refine cff ?_))
  conv => whnf
  refine ⟨ad, eh, eo, eb, H, O, P, Q, rA, rB, N1, N2, bl, _, rfl, rfl, hS.mono hM2, hH.mono hM2, hfit, hV.c, by omega, href, hP, hQ, tabT_fits H O _, fun w hw => ?_⟩
  have hw1 := hw.eq
  unfold chkE at hK
  rw [hw1] at hK
  cases w with
  | some p =>
    repeat ((conv => whnf); (first | refine Cnd.yes ?_ | refine Cnd.no ?_ | refine And.intro rfl ?_ | refine aom ?_ | refine Alt.std ?_ | (show Ko_ _ _ _ _; subst hKo_) | refine ctt ?_ | refine cff ?_))
    conv => whnf
    refine ⟨[0, 1, 2, 3, 9], .ifc 97 (.ptr 4 0 0 0), ckHp eh eo eb H O bl ++ [atE ad 9 p], ?_⟩
    repeat ((conv => whnf); (first | refine Cnd.yes ?_ | refine Cnd.no ?_ | refine And.intro rfl ?_ | refine aom ?_ | refine Alt.std ?_ | (show Ko_ _ _ _ _; subst hKo_)))
    conv => whnf
    exact hK M2
  | none =>
    repeat ((conv => whnf); (first | refine Cnd.yes ?_ | refine Cnd.no ?_ | refine And.intro rfl ?_ | refine aom ?_ | refine Alt.std ?_ | (show Ko_ _ _ _ _; subst hKo_) | refine ctt ?_ | refine cff ?_))
    conv => whnf
    refine ⟨ad, eh, eo, eb, H, O, P, Q, rA, rB, N1, N2, bl, _, rfl, rfl, hS.mono hM2, hH.mono hM2, by omega, href, hszo, hW, hWO, hF, fun w hw N2' hF2 => ?_⟩
    have hw2 := hw.eq
    dsimp only at hK
    rw [hw2] at hK
    cases w with
    | some p =>
      repeat ((conv => whnf); (first | refine Cnd.yes ?_ | refine Cnd.no ?_ | refine And.intro rfl ?_ | refine aom ?_ | refine Alt.std ?_ | (show Ko_ _ _ _ _; subst hKo_) | refine ctt ?_ | refine cff ?_))
      conv => whnf
      refine ⟨[0, 1, 2, 3, 9], .ifc 97 (.ptr 4 0 0 0), ckHp eh eo eb H O bl ++ [atE ad 10 p], ?_⟩
      repeat ((conv => whnf); (first | refine Cnd.yes ?_ | refine Cnd.no ?_ | refine And.intro rfl ?_ | refine aom ?_ | refine Alt.std ?_ | (show Ko_ _ _ _ _; subst hKo_)))
      conv => whnf
      exact hK M2
    | none =>
      repeat ((conv => whnf); (first | refine Cnd.yes ?_ | refine Cnd.no ?_ | refine And.intro rfl ?_ | refine aom ?_ | refine Alt.std ?_ | (show Ko_ _ _ _ _; subst hKo_) | refine ctt ?_ | refine cff ?_))
      conv => whnf
      refine ⟨ad, eh, eo, eb, H, O, P, Q, rA, rB, N1, N2', bl, _, _, rfl, rfl, hS.mono hM2, hH.mono hM2, by omega, href, hV.c, fun h hh x hx => hsz _ (getD_mem H hh) x hx, hP, hW, hWO, hF2 rfl, frN_len H O _ _, fun w hw => ?_⟩
      have hw3 := hw.eq
      dsimp only at hK
      rw [hw3] at hK
      cases w with
      | some p =>
        repeat ((conv => whnf); (first | refine Cnd.yes ?_ | refine Cnd.no ?_ | refine And.intro rfl ?_ | refine aom ?_ | refine Alt.std ?_ | (show Ko_ _ _ _ _; subst hKo_) | refine ctt ?_ | refine cff ?_))
        conv => whnf
        refine ⟨[0, 1, 2, 3, 9], .ifc 97 (.ptr 4 0 0 0), ckHp eh eo eb H O bl ++ [atE ad 9 p], ?_⟩
        repeat ((conv => whnf); (first | refine Cnd.yes ?_ | refine Cnd.no ?_ | refine And.intro rfl ?_ | refine aom ?_ | refine Alt.std ?_ | (show Ko_ _ _ _ _; subst hKo_)))
        conv => whnf
        exact hK M2
      | none =>
        repeat ((conv => whnf); (first | refine Cnd.yes ?_ | refine Cnd.no ?_ | refine And.intro rfl ?_ | refine aom ?_ | refine Alt.std ?_ | (show Ko_ _ _ _ _; subst hKo_) | refine ctt ?_ | refine cff ?_))
        conv => whnf
        refine ⟨[0, 1, 2, 3], .v .nilIface, ckHp eh eo eb H O bl, ?_⟩
        repeat ((conv => whnf); (first | refine Cnd.yes ?_ | refine Cnd.no ?_ | refine And.intro rfl ?_ | refine aom ?_ | refine Alt.std ?_ | (show Ko_ _ _ _ _; subst hKo_)))
        conv => whnf
        exact hK M2
def checkS : Vc.Spec := fun args hp M K => ∃ (ad : Nat → Addr) (eh eo eb : TypeId) (H : Hs) (O : List Rf) (bl : List Int), args = [.slc 0 1 0 H.length, .slc 1 2 0 O.length, .fn (.func 33) [] [.ptr 2 0 0 0]] ∧ hp = ckHp eh eo eb H O bl ∧ Sents M ad ∧ HIn M H ∧ CheckOK H O ∧ K (erV (chkE H O bl)) (ckHp eh eo eb H O bl ++ erH ad (chkE H O bl))
theorem check_ok : SOK Tryd.prog 18 checkS := by
  refine TOK.weaken (TOK.shrink (TOK.out (runF_eq GV1_ok mixed at18.1 at18.2 pf18_eq))) fun args hp M K h => ?_
  obtain ⟨ad, eh, eo, eb, H, O, bl, rfl, rfl, h1, h2, h3, h4⟩ := h
  refine check_run M _ ad h1 eh eo eb H O bl h2 h3 fun _ => ⟨?_, h4⟩
  cases chkE H O bl <;> rfl
end Go.Proofs.YtkfkoldaeplckaaDoor
/-
  bytesOf of nothing; the chapter's examples, walked; their contracts.
-/
namespace Go.Proofs.YtkfkoldaeplckaaDoor
open Go Go.Vc
set_option maxRecDepth 100000
set_option linter.unusedSimpArgs false
set_option linter.unusedVariables false
set_option maxHeartbeats 20000000
theorem bof_run (M : HL) (K : SV → List Ent → HL → Prop) (hK : K (.fn (.func 33) [] [.ptr 0 0 0 0]) [.cells 72 [.slc 1 1 0 0], .row true 5 [.int .u8] []] M) :
    runF G0 pf17 [.v (.slice none 0 0)] [] M fun v hp2 M2 => ∃ m v' hp', Wk (llen ([] : List Ent)) m [v] hp2 [v'] hp' (K v' hp' M2) := by
  repeat ((conv => whnf); (first | refine Cnd.yes ?_ | refine Cnd.no ?_ | refine And.intro rfl ?_ | refine aom ?_ | refine Alt.std ?_ | (show Ko_ _ _ _ _; subst hKo_) | refine ctt ?_ | refine cff ?_))
  conv => whnf
  refine ⟨InvS 22 (fun s : Unit => 0) (fun s : Unit => True) (fun s : Unit => [(0, .v (.slice none 0 0)), (3, .slc 0 1 0 0), (4, .v (.int .i64 0))]) (fun s : Unit => [Ent.row true 5 [.int .u8] []]) M, ⟨(fun s : Unit => 0) (), [0], tmk 22 0 ((fun s : Unit => [(0, .v (.slice none 0 0)), (3, .slc 0 1 0 0), (4, .v (.int .i64 0))]) ()), (fun s : Unit => [Ent.row true 5 [.int .u8] []]) (), ?_⟩, ?_⟩
  · repeat ((conv => whnf); (first | refine Cnd.yes ?_ | refine Cnd.no ?_ | refine And.intro rfl ?_ | refine aom ?_ | refine Alt.std ?_ | (show Ko_ _ _ _ _; subst hKo_)))
    conv => whnf
    exact ⟨(), trivial, rfl, rfl, (tmkK_eq _ _ _ _).mpr rfl, rfl⟩
  · rintro Ko_ hKo_ cnt tm hp M1 ⟨u, hC_, rfl, rfl, htm, hhp_⟩
    replace hC_ : True := hC_
    have hu := hC_
    replace htm : tmkK 22 0 [(0, .v (.slice none 0 0)), (3, .slc 0 1 0 0), (4, .v (.int .i64 0))] (fun l => tm = l) := htm
    conv at htm => whnf
    subst htm
    replace hhp_ : hp = [Ent.row true 5 [.int .u8] []] := hhp_
    subst hhp_
    repeat ((conv => whnf); (first | refine Cnd.yes ?_ | refine Cnd.no ?_ | refine And.intro rfl ?_ | refine aom ?_ | refine Alt.std ?_ | (show Ko_ _ _ _ _; subst hKo_) | refine ctt ?_ | refine cff ?_))
    conv => whnf
    refine ⟨[1, 0], .fn (.func 33) [] [.ptr 0 0 0 0], [.cells 72 [.slc 1 1 0 0], .row true 5 [.int .u8] []], ?_⟩
    repeat ((conv => whnf); (first | refine Cnd.yes ?_ | refine Cnd.no ?_ | refine And.intro rfl ?_ | refine aom ?_ | refine Alt.std ?_ | (show Ko_ _ _ _ _; subst hKo_)))
    conv => whnf
    exact hK
def bofS : Vc.Spec := fun args hp _ K => args = [.v (.slice none 0 0)] ∧ hp = [] ∧ K (.fn (.func 33) [] [.ptr 0 0 0 0]) [.cells 72 [.slc 1 1 0 0], .row true 5 [.int .u8] []]
theorem bof_ok : SOK Tryd.prog 17 bofS := by
  refine TOK.weaken (TOK.out (runF_eq G0_ok mixed at17.1 at17.2 pf17_eq)) fun args hp M K h => ?_
  obtain ⟨rfl, rfl, h⟩ := h
  exact bof_run M K h
noncomputable def specsW1 : Nat → Option Vc.Trans := tget [(17, frameT bofS), (18, frameT checkS), (19, frameT sameES)]
noncomputable def GW1 : Nat → Option Vc.Trans := tabG specsW1 (tget tab) 6
theorem GW1_ok : GOK Tryd.prog GW1 := tabG_ok (GOK.cons (frame_ok bof_ok) (GOK.cons (frame_ok check_ok) (GOK.cons (frame_ok sameE_ok) .nil))) tab_ok 6
/-- An operation that hangs on nothing, is not paired. -/
def opP (k sz ad v g : Int) : Op := ⟨k, sz, ad, v, g, false, false, false, 0, 0, nilV, nilV, nilV, [], [], []⟩
theorem nil_in (M : HL) (e : TypeId) : Vc.RowsIn M e [.int .i64] nilV (([] : List Int).map irow) := ⟨by decide, .inl ⟨rfl, none, rfl⟩⟩
theorem bare_in {M : HL} {x : Op} (h : x.ya = nilV ∧ x.yd = nilV ∧ x.yc = nilV ∧ x.da = [] ∧ x.dd = [] ∧ x.dc = []) : OIn M x ∧ x.da.length ≤ 1000000 ∧ x.dd.length ≤ 1000000 ∧ x.dc.length ≤ 1000000 := by
  obtain ⟨h1, h2, h3, h4, h5, h6⟩ := h
  refine ⟨⟨⟨0, ?_⟩, ⟨0, ?_⟩, ⟨0, ?_⟩⟩, ?_, ?_, ?_⟩
  · rw [h1, h4]; exact nil_in M 0
  · rw [h2, h5]; exact nil_in M 0
  · rw [h3, h6]; exact nil_in M 0
  · rw [h4]; simp
  · rw [h5]; simp
  · rw [h6]; simp
def Bare (x : Op) : Prop := x.ya = nilV ∧ x.yd = nilV ∧ x.yc = nilV ∧ x.da = [] ∧ x.dd = [] ∧ x.dc = []
theorem HIn.nil {M : HL} : HIn M [] := ⟨fun p hp => (by cases hp), fun p hp => (by cases hp)⟩
theorem HIn.cons {M : HL} {H : Hs} {y : Value} {l : List Op} {e : TypeId} (hR : Vc.RowsIn M e ock y (l.map orow)) (hb : ∀ x ∈ l, Bare x) (h : HIn M H) : HIn M ((y, l) :: H) := by
  refine ⟨fun p hp => ?_, fun p hp => ?_⟩
  · rcases List.mem_cons.1 hp with rfl | hp
    · exact ⟨e, hR⟩
    · exact h.r p hp
  · rcases List.mem_cons.1 hp with rfl | hp
    · exact fun x hx => bare_in (hb x hx)
    · exact h.d p hp
theorem bare1 {a : Op} (h : Bare a) : ∀ x ∈ [a], Bare x := fun x hx => by
  simp only [List.mem_cons, List.not_mem_nil, or_false] at hx
  subst hx; exact h
theorem bare2 {a b : Op} (h : Bare a) (h2 : Bare b) : ∀ x ∈ [a, b], Bare x := fun x hx => by
  simp only [List.mem_cons, List.not_mem_nil, or_false] at hx
  rcases hx with rfl | rfl
  · exact h
  · exact h2
theorem bare3 {a b c : Op} (h : Bare a) (h2 : Bare b) (h3 : Bare c) : ∀ x ∈ [a, b, c], Bare x := fun x hx => by
  simp only [List.mem_cons, List.not_mem_nil, or_false] at hx
  rcases hx with rfl | rfl | rfl
  · exact h
  · exact h2
  · exact h3
theorem bareP (k sz ad v g : Int) : Bare (opP k sz ad v g) := ⟨rfl, rfl, rfl, rfl, rfl, rfl⟩
/-- All that CheckOK asks, computed. -/
def okB (H : Hs) (O : List Rf) : Bool :=
  decide (H.length ≤ 64) && (decide (totN H H.length ≤ 20000) && (H.all (fun p => decide (p.2.length ≤ 1000)) && (H.all (fun p => (List.range p.2.length).all fun i => fairB p.2 i (pairN p.2 i)) &&
  (H.all (fun p => p.2.all fun x => decide (0 ≤ x.ad) && (decide (x.ad < 4294967296) && (decide (0 ≤ x.sz) && decide (x.sz ≤ 4)))) &&
  (O.all (fun r => decide (0 ≤ r.1) && (decide (r.1 < H.length) && (decide (0 ≤ r.2) && (decide (r.2 < (H.getD r.1.toNat default).2.length) && (decide ((opAt H r).k ≠ 4) && (decide ((opAt H r).sz = 1) || (decide ((opAt H r).sz = 2) || decide ((opAt H r).sz = 4)))))))) &&
  ((List.range O.length).all (fun j => (List.range j).all fun i => decide (O.getD i (0, 0) ≠ O.getD j (0, 0))) && (decide (allN H H.length ≤ O.length) && decide (O.length ≤ 200000))))))))
theorem okB_ok {H : Hs} {O : List Rf} (h : okB H O = true) : CheckOK H O := by
  unfold okB at h
  simp only [Bool.and_eq_true, Bool.or_eq_true, decide_eq_true_eq, List.all_eq_true, List.mem_range] at h
  obtain ⟨h1, h2, h3, h4, h5, h6, h7, h8, h9⟩ := h
  have hop : ∀ r ∈ O, RefOK H r ∧ opAt H r ∈ (H.getD r.1.toNat default).2 ∧ H.getD r.1.toNat default ∈ H := fun r hr => by
    obtain ⟨a1, a2, a3, a4, _⟩ := h6 r hr
    exact ⟨⟨a1, a2, a3, a4⟩, getD_mem _ (by omega), getD_mem _ (by omega)⟩
  refine ⟨⟨h1, h2, h3, h4⟩, fun p hp x hx => ?_, fun p hp x hx => ?_, fun r hr => (hop r hr).1, fun r hr => (h6 r hr).2.2.2.2.1, fun r hr => ⟨(h6 r hr).2.2.2.2.2, ?_⟩, fun i j hij hj => h7 j hj i hij, h8, h9⟩
  · obtain ⟨a1, a2, a3, a4⟩ := h5 p hp x hx
    exact ⟨a1, a2, fun _ => ⟨a3, a4⟩⟩
  · obtain ⟨a1, a2, a3, a4⟩ := h5 p hp x hx
    exact ⟨a3, a4⟩
  · obtain ⟨_, hm, hm2⟩ := hop r hr
    obtain ⟨a1, a2, _⟩ := h5 _ hm2 _ hm
    exact ⟨a1, a2⟩
def f1H (y1 y2 : Value) : Hs := [(y1, [opP 2 4 0 1 0]), (y2, [opP 1 4 0 0 1])]
theorem f1_ok (y1 y2 : Value) : okB (f1H y1 y2) [(0, 0), (1, 0)] = true := by kernel_rfl
theorem f2_ok (y1 y2 : Value) : okB (f1H y1 y2) [(1, 0), (0, 0)] = true := by kernel_rfl
theorem f1_e (y1 y2 : Value) : chkE (f1H y1 y2) [(0, 0), (1, 0)] [] = none := by kernel_rfl
theorem f2_e (y1 y2 : Value) : chkE (f1H y1 y2) [(1, 0), (0, 0)] [] = some (10, 0) := by kernel_rfl
theorem first_run (M : HL) (K : SV → List Ent → HL → Prop) (ad : Nat → Addr) (hS : Sents M ad) (hK : ∀ M', K (.v (.bool true)) [] M') :
    runF GW1 pf12 [] [] M fun v hp2 M2 => ∃ m v' hp', Wk (llen ([] : List Ent)) m [v] hp2 [v'] hp' (K v' hp' M2) := by
  repeat ((conv => whnf); (first | refine Cnd.yes ?_ | refine Cnd.no ?_ | refine And.intro rfl ?_ | refine aom ?_ | refine Alt.std ?_ | (show Ko_ _ _ _ _; subst hKo_) | refine ctt ?_ | refine cff ?_))
  conv => whnf
  intro y1 M1 hM1 hR1
  repeat ((conv => whnf); (first | refine Cnd.yes ?_ | refine Cnd.no ?_ | refine And.intro rfl ?_ | refine aom ?_ | refine Alt.std ?_ | (show Ko_ _ _ _ _; subst hKo_) | refine ctt ?_ | refine cff ?_))
  conv => whnf
  intro y2 M2 hM2 hR2
  repeat ((conv => whnf); (first | refine Cnd.yes ?_ | refine Cnd.no ?_ | refine And.intro rfl ?_ | refine aom ?_ | refine Alt.std ?_ | (show Ko_ _ _ _ _; subst hKo_) | refine ctt ?_ | refine cff ?_))
  conv => whnf
  have hH : HIn M2 (f1H y1 y2) := HIn.cons (hR1.mono hM2) (bare1 (bareP ..)) (HIn.cons hR2 (bare1 (bareP ..)) HIn.nil)
  have hS2 := (hS.mono hM1).mono hM2
  refine ⟨ad, 34, 41, 5, f1H y1 y2, [(0, 0), (1, 0)], [], rfl, rfl, hS2, hH, okB_ok (f1_ok y1 y2), ?_⟩
  rw [f1_e]
  repeat ((conv => whnf); (first | refine Cnd.yes ?_ | refine Cnd.no ?_ | refine And.intro rfl ?_ | refine aom ?_ | refine Alt.std ?_ | (show Ko_ _ _ _ _; subst hKo_) | refine ctt ?_ | refine cff ?_))
  conv => whnf
  refine ⟨ad, 34, 41, 5, f1H y1 y2, [(1, 0), (0, 0)], [], rfl, rfl, hS2, hH, okB_ok (f2_ok y1 y2), ?_⟩
  rw [f2_e]
  repeat ((conv => whnf); (first | refine Cnd.yes ?_ | refine Cnd.no ?_ | refine And.intro rfl ?_ | refine aom ?_ | refine Alt.std ?_ | (show Ko_ _ _ _ _; subst hKo_) | refine ctt ?_ | refine cff ?_))
  conv => whnf
  refine .inl ⟨ad, 10, 0, 111, 0, true, hS2, by decide, rfl, rfl, ?_⟩
  repeat ((conv => whnf); (first | refine Cnd.yes ?_ | refine Cnd.no ?_ | refine And.intro rfl ?_ | refine aom ?_ | refine Alt.std ?_ | (show Ko_ _ _ _ _; subst hKo_) | refine ctt ?_ | refine cff ?_))
  conv => whnf
  refine ⟨[], .v (.bool true), [], ?_⟩
  repeat ((conv => whnf); (first | refine Cnd.yes ?_ | refine Cnd.no ?_ | refine And.intro rfl ?_ | refine aom ?_ | refine Alt.std ?_ | (show Ko_ _ _ _ _; subst hKo_)))
  conv => whnf
  exact hK _
def firstS : Vc.Spec := fun args hp M K => ∃ ad, Sents M ad ∧ args = [] ∧ hp = [] ∧ K (.v (.bool true)) []
theorem first_ok : SOK Tryd.prog 12 firstS := by
  refine TOK.weaken (TOK.shrink (TOK.out (runF_eq GW1_ok mixed at12.1 at12.2 pf12_eq))) fun args hp M K h => ?_
  obtain ⟨ad, hS, rfl, rfl, h⟩ := h
  exact first_run M _ ad hS fun _ => ⟨rfl, h⟩
end Go.Proofs.YtkfkoldaeplckaaDoor
