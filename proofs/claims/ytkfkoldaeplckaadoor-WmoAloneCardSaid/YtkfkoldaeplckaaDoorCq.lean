/-
  The checker's values, walked; its contract.
-/
import Derived.Test.YtkfkoldaeplckaaDoorCp
set_option linter.unusedSimpArgs false
set_option linter.unusedVariables false

namespace Go.Proofs.YtkfkoldaeplckaaDoor
open Go Go.Vc
set_option maxRecDepth 100000
set_option linter.unusedSimpArgs false
set_option linter.unusedVariables false
set_option maxHeartbeats 20000000
theorem frIn_next {N3 : HL} {r2 : Nat} {H : Hs} {O : List Rf} {W : Int → List Int} {p z : Nat} {r : Rf} {x : Op} (hrd : rd x = true)
    (hfn : ∀ q, frN H O W (p + 1) q = if rd x && KT.two.same r q then some (fromL O W x p r z) else frN H O W p q)
    (hM : MapIn N3 r2 .two (mset .two (fun q => (frN H O W p q).map fun l => .agg (l.map fun x => Value.int .i64 x).toArray) (r.1, r.2) (.agg [Value.int .i64 (fromI O W x p r z 0), .int .i64 (fromI O W x p r z 1), .int .i64 (fromI O W x p r z 2), .int .i64 (fromI O W x p r z 3)].toArray))) :
    FrIn N3 r2 (frN H O W (p + 1)) := by
  unfold FrIn
  have e : (fun q => (frN H O W (p + 1) q).map fun l => Value.agg (l.map fun x => Value.int .i64 x).toArray) = mset .two (fun q => (frN H O W p q).map fun l => .agg (l.map fun x => Value.int .i64 x).toArray) (r.1, r.2) (.agg [Value.int .i64 (fromI O W x p r z 0), .int .i64 (fromI O W x p r z 1), .int .i64 (fromI O W x p r z 2), .int .i64 (fromI O W x p r z 3)].toArray) := by
    funext q
    unfold mset
    rw [hfn q, hrd, Bool.true_and]
    split
    · rfl
    · rfl
  rw [e]
  exact hM
theorem values_run (M : HL) (K : SV → List Ent → HL → Prop) (ad : Nat → Addr) (hS : Sents M ad) (eh eo eb : TypeId) (H : Hs) (O : List Rf) (P Q : List Value) (r1 r2 : Nat) (N1 N2 : HL) (bl : List Int) (W : Int → List Int)
    (hH : HIn M H) (hO : O.length ≤ 1000000) (hr : ∀ r ∈ O, RefOK H r) (hZ : ∀ r ∈ O, SzOK (opAt H r)) (hW : WrIn N1 r1 W) (hWO : WOK W O.length) (hN2 : FrIn N2 r2 fun _ => none)
    (hK1 : (∀ p, p < O.length → badV H O W bl p = false) → ∀ N2', FrIn N2' r2 (frN H O W O.length) → K (.v .nilIface) (chk true eh eo eb H O P Q r1 r2 N1 N2' bl) M)
    (hK2 : ∀ p, p < O.length → badV H O W bl p = true → (∀ q, q < p → badV H O W bl q = false) → ∀ N2', K (.ifc 97 (.ptr 9 0 0 0)) (chk true eh eo eb H O P Q r1 r2 N1 N2' bl ++ [atE ad 10 p]) M) :
    runF GP1 pf37 [.ptr 0 0 0 0] (chk true eh eo eb H O P Q r1 r2 N1 N2 bl) M fun v hp2 M2 => ∃ m v' hp', Wk (llen (chk true eh eo eb H O P Q r1 r2 N1 N2 bl)) m [v] hp2 [v'] hp' (K v' hp' M2) := by
  repeat ((conv => whnf); (first | refine Cnd.yes ?_ | refine Cnd.no ?_ | refine And.intro rfl ?_ | refine aom ?_ | refine Alt.std ?_ | (show Ko_ _ _ _ _; subst hKo_) | refine ctt ?_ | refine cff ?_))
  conv => whnf
  refine ⟨InvS 100 (fun s : (Nat × HL) => O.length - s.1) (fun s : (Nat × HL) => s.1 ≤ O.length ∧ (∀ q, q < s.1 → badV H O W bl q = false) ∧ FrIn s.2 r2 (frN H O W s.1)) (fun s : (Nat × HL) => [(0, .ptr 0 0 0 0), (2, .v .nilIface), (16, .slc 2 2 0 O.length), (17, .v (.int .i64 O.length)), (18, .v (.int .i64 s.1))]) (fun s : (Nat × HL) => chk true eh eo eb H O P Q r1 r2 N1 s.2 bl) M, ⟨(fun s : (Nat × HL) => O.length - s.1) (0, N2), [0, 1, 2, 3, 4, 5, 6, 7, 8], tmk 100 0 ((fun s : (Nat × HL) => [(0, .ptr 0 0 0 0), (2, .v .nilIface), (16, .slc 2 2 0 O.length), (17, .v (.int .i64 O.length)), (18, .v (.int .i64 s.1))]) (0, N2)), (fun s : (Nat × HL) => chk true eh eo eb H O P Q r1 r2 N1 s.2 bl) (0, N2), ?_⟩, ?_⟩
  · repeat ((conv => whnf); (first | refine Cnd.yes ?_ | refine Cnd.no ?_ | refine And.intro rfl ?_ | refine aom ?_ | refine Alt.std ?_ | (show Ko_ _ _ _ _; subst hKo_)))
    conv => whnf
    exact ⟨(0, N2), ⟨Nat.zero_le _, fun q hq => by omega, hN2⟩, rfl, rfl, (tmkK_eq _ _ _ _).mpr rfl, rfl⟩
  · rintro Ko_ hKo_ cnt tm hp M1 ⟨⟨p,N2'⟩, hC_, rfl, rfl, htm, hhp_⟩
    replace hC_ : p ≤ O.length ∧ (∀ q, q < p → badV H O W bl q = false) ∧ FrIn N2' r2 (frN H O W p) := hC_
    obtain ⟨hpp,hall,hFr⟩ := hC_
    replace htm : tmkK 100 0 [(0, .ptr 0 0 0 0), (2, .v .nilIface), (16, .slc 2 2 0 O.length), (17, .v (.int .i64 O.length)), (18, .v (.int .i64 p))] (fun l => tm = l) := htm
    conv at htm => whnf
    subst htm
    replace hhp_ : hp = chk true eh eo eb H O P Q r1 r2 N1 N2' bl := hhp_
    subst hhp_
    repeat ((conv => whnf); (first | refine Cnd.yes ?_ | refine Cnd.no ?_ | refine And.intro rfl ?_ | refine aom ?_ | refine Alt.std ?_ | (show Ko_ _ _ _ _; subst hKo_) | refine ctt ?_ | refine cff ?_))
    conv => whnf
    refine Cnd.mk (fun hlt => ?_) fun hge => ?_
    · have hpn : p < O.length := by have := of_decide_eq_true hlt; omega
      have e0 : toI (cellAt (O.map rrow) (0 + (p : Int).toNat) 0) = (O.getD p (0, 0)).1 := by rw [Nat.zero_add, Int.toNat_natCast]; exact rcell0 O hpn
      have e1 : toI (cellAt (O.map rrow) (0 + (p : Int).toNat) (0 + 1)) = (O.getD p (0, 0)).2 := by rw [Nat.zero_add, Int.toNat_natCast]; exact rcell1 O hpn
      have hmo : O.getD p (0, 0) ∈ O := by simp [List.getD, hpn]
      have hro := hr _ hmo
      have hzo := hZ _ hmo
      repeat ((conv => whnf); (first | refine Cnd.yes ?_ | refine Cnd.no ?_ | refine And.intro rfl ?_ | refine aom ?_ | refine Alt.std ?_ | (show Ko_ _ _ _ _; subst hKo_) | refine ctt ?_ | refine cff ?_))
      conv => whnf
      rw [e0, e1]
      refine ⟨true, eh, eo, eb, H, O, P, Q, r1, r2, N1, N2', bl, p, rfl, rfl, hH, hpn, hro, ?_⟩
      obtain ⟨x, hx⟩ : ∃ x, opAt H (O.getD p (0, 0)) = x := ⟨_, rfl⟩
      have hbad : badV H O W bl p = (rd x && !goodI H O W bl x p (O.getD p (0, 0)) x.sz.toNat) := by unfold badV; dsimp only; rw [hx]
      have hfn : ∀ q, frN H O W (p + 1) q = if rd x && KT.two.same (O.getD p (0, 0)) q then some (fromL O W x p (O.getD p (0, 0)) x.sz.toNat) else frN H O W p q := fun q => by
        show (let r := O.getD p (0, 0); let x := opAt H r; if rd x && KT.two.same r q then some (fromL O W x p r x.sz.toNat) else frN H O W p q) = _
        dsimp only
        rw [hx]
      have hsr : ∀ i, srcF O p (O.getD p (0, 0)) (W (byX x i)) = srcI O W x p (O.getD p (0, 0)) i := fun i => rfl
      rw [hx] at hzo ⊢
      obtain ⟨hz, hza⟩ := hzo
      generalize hrr : O.getD p (0, 0) = r at *
      repeat ((conv => whnf); (first | refine Cnd.yes ?_ | refine Cnd.no ?_ | refine And.intro rfl ?_ | refine aom ?_ | refine Alt.std ?_ | (show Ko_ _ _ _ _; subst hKo_) | refine ctt ?_ | refine cff ?_))
      conv => whnf
      refine ⟨x, rfl, rfl, ?_⟩
      cases hrd : rd x with
      | false =>
        rw [hrd, Bool.false_and] at hbad
        repeat ((conv => whnf); (first | refine Cnd.yes ?_ | refine Cnd.no ?_ | refine And.intro rfl ?_ | refine aom ?_ | refine Alt.std ?_ | (show Ko_ _ _ _ _; subst hKo_) | refine ctt ?_ | refine cff ?_))
        conv => whnf
        (refine ⟨(fun s : (Nat × HL) => O.length - s.1) ((p + 1, N2')), [0, 1, 2, 3, 4, 5, 6, 7, 8], tmk 100 0 ((fun s : (Nat × HL) => [(0, .ptr 0 0 0 0), (2, .v .nilIface), (16, .slc 2 2 0 O.length), (17, .v (.int .i64 O.length)), (18, .v (.int .i64 s.1))]) ((p + 1, N2'))), (fun s : (Nat × HL) => chk true eh eo eb H O P Q r1 r2 N1 s.2 bl) ((p + 1, N2')), ?_, ?_⟩; focus (first | (simp only []; omega) | omega))
        repeat ((conv => whnf); (first | refine Cnd.yes ?_ | refine Cnd.no ?_ | refine And.intro rfl ?_ | refine aom ?_ | refine Alt.std ?_ | (show Ko_ _ _ _ _; subst hKo_)))
        conv => whnf
        exact ⟨(p + 1, N2'), ⟨hpn, fun q hq => by rcases Nat.lt_succ_iff_lt_or_eq.1 hq with h | h; exact hall q h; rw [h]; exact hbad, by rw [show frN H O W (p + 1) = frN H O W p from funext fun q => by rw [hfn q, hrd, Bool.false_and, if_neg (by simp)]]; exact hFr⟩, rfl, rfl, (tmkK_eq _ _ _ _).mpr rfl, rfl⟩
      | true =>
        rw [hrd, Bool.true_and] at hbad
        repeat ((conv => whnf); (first | refine Cnd.yes ?_ | refine Cnd.no ?_ | refine And.intro rfl ?_ | refine aom ?_ | refine Alt.std ?_ | (show Ko_ _ _ _ _; subst hKo_) | refine ctt ?_ | refine cff ?_))
        conv => whnf
        refine ⟨x, rfl, rfl, by omega, ?_⟩
        obtain ⟨z, hzz⟩ : ∃ z : Nat, x.sz = z := ⟨x.sz.toNat, by omega⟩
        have hzt : x.sz.toNat = z := by omega
        have hz4 : z ≤ 4 := by omega
        rw [hzt] at hbad hfn ⊢
        repeat ((conv => whnf); (first | refine Cnd.yes ?_ | refine Cnd.no ?_ | refine And.intro rfl ?_ | refine aom ?_ | refine Alt.std ?_ | (show Ko_ _ _ _ _; subst hKo_) | refine ctt ?_ | refine cff ?_))
        conv => whnf
        refine ⟨InvS 100 (fun s : Nat => z - s) (fun s : Nat => s ≤ z) (fun s : Nat => [(0, .ptr 0 0 0 0), (2, .v .nilIface), (3, .v (.int .i64 p)), (4, .ptr 9 0 0 0), (5, .ptr 10 0 0 0), (6, .ptr 11 0 0 0), (7, .v (.bool (goodI H O W bl x p r s))), (16, .slc 2 2 0 O.length), (17, .v (.int .i64 O.length)), (18, .v (.int .i64 p)), (38, .slc 12 1 0 z), (39, .v (.int .i64 z)), (40, .v (.int .i64 s))]) (fun s : Nat => chk true eh eo eb H O P Q r1 r2 N1 N2' bl ++ [Ent.cells 41 [.v (.int .i64 r.1), .v (.int .i64 r.2)], .cells 38 (osv x), .cells 104 [.v (.int .i64 (fromI O W x p r s 0)), .v (.int .i64 (fromI O W x p r s 1)), .v (.int .i64 (fromI O W x p r s 2)), .v (.int .i64 (fromI O W x p r s 3))], .row true 36 [.int .u32] ((byL x z).map urow)]) M1, ⟨(fun s : Nat => z - s) 0, [0, 1, 2, 3, 4, 5, 6, 7, 8, 9, 10, 11, 12], tmk 100 0 ((fun s : Nat => [(0, .ptr 0 0 0 0), (2, .v .nilIface), (3, .v (.int .i64 p)), (4, .ptr 9 0 0 0), (5, .ptr 10 0 0 0), (6, .ptr 11 0 0 0), (7, .v (.bool (goodI H O W bl x p r s))), (16, .slc 2 2 0 O.length), (17, .v (.int .i64 O.length)), (18, .v (.int .i64 p)), (38, .slc 12 1 0 z), (39, .v (.int .i64 z)), (40, .v (.int .i64 s))]) 0), (fun s : Nat => chk true eh eo eb H O P Q r1 r2 N1 N2' bl ++ [Ent.cells 41 [.v (.int .i64 r.1), .v (.int .i64 r.2)], .cells 38 (osv x), .cells 104 [.v (.int .i64 (fromI O W x p r s 0)), .v (.int .i64 (fromI O W x p r s 1)), .v (.int .i64 (fromI O W x p r s 2)), .v (.int .i64 (fromI O W x p r s 3))], .row true 36 [.int .u32] ((byL x z).map urow)]) 0, ?_⟩, ?_⟩
        · repeat ((conv => whnf); (first | refine Cnd.yes ?_ | refine Cnd.no ?_ | refine And.intro rfl ?_ | refine aom ?_ | refine Alt.std ?_ | (show Ko_ _ _ _ _; subst hKo_)))
          conv => whnf
          exact ⟨0, Nat.zero_le _, rfl, rfl, (tmkK_eq _ _ _ _).mpr rfl, rfl⟩
        · rintro Ko_ hKo_ cnt tm hp M1 ⟨i, hC_, rfl, rfl, htm, hhp_⟩
          replace hC_ : i ≤ z := hC_
          have hi := hC_
          replace htm : tmkK 100 0 [(0, .ptr 0 0 0 0), (2, .v .nilIface), (3, .v (.int .i64 p)), (4, .ptr 9 0 0 0), (5, .ptr 10 0 0 0), (6, .ptr 11 0 0 0), (7, .v (.bool (goodI H O W bl x p r i))), (16, .slc 2 2 0 O.length), (17, .v (.int .i64 O.length)), (18, .v (.int .i64 p)), (38, .slc 12 1 0 z), (39, .v (.int .i64 z)), (40, .v (.int .i64 i))] (fun l => tm = l) := htm
          conv at htm => whnf
          subst htm
          replace hhp_ : hp = chk true eh eo eb H O P Q r1 r2 N1 N2' bl ++ [Ent.cells 41 [.v (.int .i64 r.1), .v (.int .i64 r.2)], .cells 38 (osv x), .cells 104 [.v (.int .i64 (fromI O W x p r i 0)), .v (.int .i64 (fromI O W x p r i 1)), .v (.int .i64 (fromI O W x p r i 2)), .v (.int .i64 (fromI O W x p r i 3))], .row true 36 [.int .u32] ((byL x z).map urow)] := hhp_
          subst hhp_
          repeat ((conv => whnf); (first | refine Cnd.yes ?_ | refine Cnd.no ?_ | refine And.intro rfl ?_ | refine aom ?_ | refine Alt.std ?_ | (show Ko_ _ _ _ _; subst hKo_) | refine ctt ?_ | refine cff ?_))
          conv => whnf
          refine Cnd.mk (fun hlt2 => ?_) fun hge2 => ?_
          · have hin : i < z := by have := of_decide_eq_true hlt2; omega
            have hbx := byL_get x hin
            have hbl := byL_len x z
            have hgn : goodI H O W bl x p r (i + 1) = (goodI H O W bl x p r i && (byteN x.g x.ad (byX x i) == wantN H O W bl x p r i)) := rfl
            have hso := hsr i
            repeat ((conv => whnf); (first | refine Cnd.yes ?_ | refine Cnd.no ?_ | refine And.intro rfl ?_ | refine aom ?_ | refine Alt.std ?_ | (show Ko_ _ _ _ _; subst hKo_) | refine ctt ?_ | refine cff ?_))
            conv => whnf
            rw [hbx]
            repeat ((conv => whnf); (first | refine Cnd.yes ?_ | refine Cnd.no ?_ | refine And.intro rfl ?_ | refine aom ?_ | refine Alt.std ?_ | (show Ko_ _ _ _ _; subst hKo_) | refine ctt ?_ | refine cff ?_))
            conv => whnf
            refine ⟨true, eh, eo, eb, H, O, P, Q, r1, r2, N1, N2', bl, W, p, byX x i, rfl, rfl, hpn, hO, hW, hWO.r _, hWO.l _, ?_⟩
            rw [hrr, hso]
            repeat ((conv => whnf); (first | refine Cnd.yes ?_ | refine Cnd.no ?_ | refine And.intro rfl ?_ | refine aom ?_ | refine Alt.std ?_ | (show Ko_ _ _ _ _; subst hKo_) | refine ctt ?_ | refine cff ?_))
            conv => whnf
            refine ⟨i, rfl, by omega, ?_⟩
            rcases (show i = 0 ∨ i = 1 ∨ i = 2 ∨ i = 3 by omega) with rfl | rfl | rfl | rfl
            ·
              repeat ((conv => whnf); (first | refine Cnd.yes ?_ | refine Cnd.no ?_ | refine And.intro rfl ?_ | refine aom ?_ | refine Alt.std ?_ | (show Ko_ _ _ _ _; subst hKo_) | refine ctt ?_ | refine cff ?_))
              conv => whnf
              by_cases hw : 0 ≤ srcI O W x p r 0
              · obtain ⟨q, hq⟩ : ∃ q : Nat, srcI O W x p r 0 = q := ⟨(srcI O W x p r 0).toNat, by omega⟩
                have hqn : q < O.length := by have := (srcF_rng O p r _ (hWO.r (byX x 0)) (by omega)).2; rw [show srcF O p r (W (byX x 0)) = srcI O W x p r 0 from hso] at this; omega
                have hmq : O.getD q (0, 0) ∈ O := by simp [List.getD, hqn]
                have hwant : wantN H O W bl x p r 0 = byteN (opAt H (O.getD q (0, 0))).v (opAt H (O.getD q (0, 0))).ad (byX x 0) := by unfold wantN; dsimp only; rw [if_pos hw, hq, Int.toNat_natCast]
                rw [hwant] at hgn
                rw [hq]
                repeat ((conv => whnf); (first | refine Cnd.yes ?_ | refine Cnd.no ?_ | refine And.intro rfl ?_ | refine aom ?_ | refine Alt.std ?_ | (show Ko_ _ _ _ _; subst hKo_) | refine ctt ?_ | refine cff ?_))
                conv => whnf
                refine ⟨true, eh, eo, eb, H, O, P, Q, r1, r2, N1, N2', bl, q, rfl, rfl, hH, hqn, hr _ hmq, ?_⟩
                repeat ((conv => whnf); (first | refine Cnd.yes ?_ | refine Cnd.no ?_ | refine And.intro rfl ?_ | refine aom ?_ | refine Alt.std ?_ | (show Ko_ _ _ _ _; subst hKo_) | refine ctt ?_ | refine cff ?_))
                conv => whnf
                refine ⟨(opAt H (O.getD q (0, 0))).v, (opAt H (O.getD q (0, 0))).ad, byX x 0, rfl, rfl, ?_⟩
                repeat ((conv => whnf); (first | refine Cnd.yes ?_ | refine Cnd.no ?_ | refine And.intro rfl ?_ | refine aom ?_ | refine Alt.std ?_ | (show Ko_ _ _ _ _; subst hKo_) | refine ctt ?_ | refine cff ?_))
                conv => whnf
                cases hg : goodI H O W bl x p r 0 with
                | false =>
                  rw [hg, Bool.false_and] at hgn
                  repeat ((conv => whnf); (first | refine Cnd.yes ?_ | refine Cnd.no ?_ | refine And.intro rfl ?_ | refine aom ?_ | refine Alt.std ?_ | (show Ko_ _ _ _ _; subst hKo_) | refine ctt ?_ | refine cff ?_))
                  conv => whnf
                  (refine ⟨(fun s : Nat => z - s) (0 + 1), [0, 1, 2, 3, 4, 5, 6, 7, 8, 9, 10, 11, 12], tmk 100 0 ((fun s : Nat => [(0, .ptr 0 0 0 0), (2, .v .nilIface), (3, .v (.int .i64 p)), (4, .ptr 9 0 0 0), (5, .ptr 10 0 0 0), (6, .ptr 11 0 0 0), (7, .v (.bool (goodI H O W bl x p r s))), (16, .slc 2 2 0 O.length), (17, .v (.int .i64 O.length)), (18, .v (.int .i64 p)), (38, .slc 12 1 0 z), (39, .v (.int .i64 z)), (40, .v (.int .i64 s))]) (0 + 1)), (fun s : Nat => chk true eh eo eb H O P Q r1 r2 N1 N2' bl ++ [Ent.cells 41 [.v (.int .i64 r.1), .v (.int .i64 r.2)], .cells 38 (osv x), .cells 104 [.v (.int .i64 (fromI O W x p r s 0)), .v (.int .i64 (fromI O W x p r s 1)), .v (.int .i64 (fromI O W x p r s 2)), .v (.int .i64 (fromI O W x p r s 3))], .row true 36 [.int .u32] ((byL x z).map urow)]) (0 + 1), ?_, ?_⟩; focus (first | (simp only []; omega) | omega))
                  repeat ((conv => whnf); (first | refine Cnd.yes ?_ | refine Cnd.no ?_ | refine And.intro rfl ?_ | refine aom ?_ | refine Alt.std ?_ | (show Ko_ _ _ _ _; subst hKo_)))
                  conv => whnf
                  refine ⟨hgn.symm, ?_⟩
                  repeat ((conv => whnf); (first | refine Cnd.yes ?_ | refine Cnd.no ?_ | refine And.intro rfl ?_ | refine aom ?_ | refine Alt.std ?_ | (show Ko_ _ _ _ _; subst hKo_)))
                  conv => whnf
                  refine ⟨hq.symm, ?_⟩
                  repeat ((conv => whnf); (first | refine Cnd.yes ?_ | refine Cnd.no ?_ | refine And.intro rfl ?_ | refine aom ?_ | refine Alt.std ?_ | (show Ko_ _ _ _ _; subst hKo_)))
                  conv => whnf
                  exact ⟨0 + 1, hin, rfl, rfl, (tmkK_eq _ _ _ _).mpr rfl, rfl⟩
                | true =>
                  rw [hg, Bool.true_and] at hgn
                  repeat ((conv => whnf); (first | refine Cnd.yes ?_ | refine Cnd.no ?_ | refine And.intro rfl ?_ | refine aom ?_ | refine Alt.std ?_ | (show Ko_ _ _ _ _; subst hKo_) | refine ctt ?_ | refine cff ?_))
                  conv => whnf
                  refine ⟨x.g, x.ad, byX x 0, rfl, rfl, ?_⟩
                  repeat ((conv => whnf); (first | refine Cnd.yes ?_ | refine Cnd.no ?_ | refine And.intro rfl ?_ | refine aom ?_ | refine Alt.std ?_ | (show Ko_ _ _ _ _; subst hKo_) | refine ctt ?_ | refine cff ?_))
                  conv => whnf
                  (refine ⟨(fun s : Nat => z - s) (0 + 1), [0, 1, 2, 3, 4, 5, 6, 7, 8, 9, 10, 11, 12], tmk 100 0 ((fun s : Nat => [(0, .ptr 0 0 0 0), (2, .v .nilIface), (3, .v (.int .i64 p)), (4, .ptr 9 0 0 0), (5, .ptr 10 0 0 0), (6, .ptr 11 0 0 0), (7, .v (.bool (goodI H O W bl x p r s))), (16, .slc 2 2 0 O.length), (17, .v (.int .i64 O.length)), (18, .v (.int .i64 p)), (38, .slc 12 1 0 z), (39, .v (.int .i64 z)), (40, .v (.int .i64 s))]) (0 + 1)), (fun s : Nat => chk true eh eo eb H O P Q r1 r2 N1 N2' bl ++ [Ent.cells 41 [.v (.int .i64 r.1), .v (.int .i64 r.2)], .cells 38 (osv x), .cells 104 [.v (.int .i64 (fromI O W x p r s 0)), .v (.int .i64 (fromI O W x p r s 1)), .v (.int .i64 (fromI O W x p r s 2)), .v (.int .i64 (fromI O W x p r s 3))], .row true 36 [.int .u32] ((byL x z).map urow)]) (0 + 1), ?_, ?_⟩; focus (first | (simp only []; omega) | omega))
                  repeat ((conv => whnf); (first | refine Cnd.yes ?_ | refine Cnd.no ?_ | refine And.intro rfl ?_ | refine aom ?_ | refine Alt.std ?_ | (show Ko_ _ _ _ _; subst hKo_)))
                  conv => whnf
                  refine ⟨hgn.symm, ?_⟩
                  repeat ((conv => whnf); (first | refine Cnd.yes ?_ | refine Cnd.no ?_ | refine And.intro rfl ?_ | refine aom ?_ | refine Alt.std ?_ | (show Ko_ _ _ _ _; subst hKo_)))
                  conv => whnf
                  refine ⟨hq.symm, ?_⟩
                  repeat ((conv => whnf); (first | refine Cnd.yes ?_ | refine Cnd.no ?_ | refine And.intro rfl ?_ | refine aom ?_ | refine Alt.std ?_ | (show Ko_ _ _ _ _; subst hKo_)))
                  conv => whnf
                  exact ⟨0 + 1, hin, rfl, rfl, (tmkK_eq _ _ _ _).mpr rfl, rfl⟩
              · have hwant : wantN H O W bl x p r 0 = firstN bl (byX x 0) := by unfold wantN; dsimp only; rw [if_neg hw]
                rw [hwant] at hgn
                repeat ((conv => whnf); (first | refine Cnd.yes ?_ | refine Cnd.no ?_ | refine And.intro rfl ?_ | refine aom ?_ | refine Alt.std ?_ | (show Ko_ _ _ _ _; subst hKo_) | refine ctt ?_ | refine cff ?_))
                conv => whnf
                refine ⟨true, eb, bl, byX x 0, rfl, rfl, (byX_rng x 0).1, (byX_rng x 0).2, ?_⟩
                repeat ((conv => whnf); (first | refine Cnd.yes ?_ | refine Cnd.no ?_ | refine And.intro rfl ?_ | refine aom ?_ | refine Alt.std ?_ | (show Ko_ _ _ _ _; subst hKo_) | refine ctt ?_ | refine cff ?_))
                conv => whnf
                cases hg : goodI H O W bl x p r 0 with
                | false =>
                  rw [hg, Bool.false_and] at hgn
                  repeat ((conv => whnf); (first | refine Cnd.yes ?_ | refine Cnd.no ?_ | refine And.intro rfl ?_ | refine aom ?_ | refine Alt.std ?_ | (show Ko_ _ _ _ _; subst hKo_) | refine ctt ?_ | refine cff ?_))
                  conv => whnf
                  (refine ⟨(fun s : Nat => z - s) (0 + 1), [0, 1, 2, 3, 4, 5, 6, 7, 8, 9, 10, 11, 12], tmk 100 0 ((fun s : Nat => [(0, .ptr 0 0 0 0), (2, .v .nilIface), (3, .v (.int .i64 p)), (4, .ptr 9 0 0 0), (5, .ptr 10 0 0 0), (6, .ptr 11 0 0 0), (7, .v (.bool (goodI H O W bl x p r s))), (16, .slc 2 2 0 O.length), (17, .v (.int .i64 O.length)), (18, .v (.int .i64 p)), (38, .slc 12 1 0 z), (39, .v (.int .i64 z)), (40, .v (.int .i64 s))]) (0 + 1)), (fun s : Nat => chk true eh eo eb H O P Q r1 r2 N1 N2' bl ++ [Ent.cells 41 [.v (.int .i64 r.1), .v (.int .i64 r.2)], .cells 38 (osv x), .cells 104 [.v (.int .i64 (fromI O W x p r s 0)), .v (.int .i64 (fromI O W x p r s 1)), .v (.int .i64 (fromI O W x p r s 2)), .v (.int .i64 (fromI O W x p r s 3))], .row true 36 [.int .u32] ((byL x z).map urow)]) (0 + 1), ?_, ?_⟩; focus (first | (simp only []; omega) | omega))
                  repeat ((conv => whnf); (first | refine Cnd.yes ?_ | refine Cnd.no ?_ | refine And.intro rfl ?_ | refine aom ?_ | refine Alt.std ?_ | (show Ko_ _ _ _ _; subst hKo_)))
                  conv => whnf
                  refine ⟨hgn.symm, ?_⟩
                  repeat ((conv => whnf); (first | refine Cnd.yes ?_ | refine Cnd.no ?_ | refine And.intro rfl ?_ | refine aom ?_ | refine Alt.std ?_ | (show Ko_ _ _ _ _; subst hKo_)))
                  conv => whnf
                  exact ⟨0 + 1, hin, rfl, rfl, (tmkK_eq _ _ _ _).mpr rfl, rfl⟩
                | true =>
                  rw [hg, Bool.true_and] at hgn
                  repeat ((conv => whnf); (first | refine Cnd.yes ?_ | refine Cnd.no ?_ | refine And.intro rfl ?_ | refine aom ?_ | refine Alt.std ?_ | (show Ko_ _ _ _ _; subst hKo_) | refine ctt ?_ | refine cff ?_))
                  conv => whnf
                  refine ⟨x.g, x.ad, byX x 0, rfl, rfl, ?_⟩
                  repeat ((conv => whnf); (first | refine Cnd.yes ?_ | refine Cnd.no ?_ | refine And.intro rfl ?_ | refine aom ?_ | refine Alt.std ?_ | (show Ko_ _ _ _ _; subst hKo_) | refine ctt ?_ | refine cff ?_))
                  conv => whnf
                  (refine ⟨(fun s : Nat => z - s) (0 + 1), [0, 1, 2, 3, 4, 5, 6, 7, 8, 9, 10, 11, 12], tmk 100 0 ((fun s : Nat => [(0, .ptr 0 0 0 0), (2, .v .nilIface), (3, .v (.int .i64 p)), (4, .ptr 9 0 0 0), (5, .ptr 10 0 0 0), (6, .ptr 11 0 0 0), (7, .v (.bool (goodI H O W bl x p r s))), (16, .slc 2 2 0 O.length), (17, .v (.int .i64 O.length)), (18, .v (.int .i64 p)), (38, .slc 12 1 0 z), (39, .v (.int .i64 z)), (40, .v (.int .i64 s))]) (0 + 1)), (fun s : Nat => chk true eh eo eb H O P Q r1 r2 N1 N2' bl ++ [Ent.cells 41 [.v (.int .i64 r.1), .v (.int .i64 r.2)], .cells 38 (osv x), .cells 104 [.v (.int .i64 (fromI O W x p r s 0)), .v (.int .i64 (fromI O W x p r s 1)), .v (.int .i64 (fromI O W x p r s 2)), .v (.int .i64 (fromI O W x p r s 3))], .row true 36 [.int .u32] ((byL x z).map urow)]) (0 + 1), ?_, ?_⟩; focus (first | (simp only []; omega) | omega))
                  repeat ((conv => whnf); (first | refine Cnd.yes ?_ | refine Cnd.no ?_ | refine And.intro rfl ?_ | refine aom ?_ | refine Alt.std ?_ | (show Ko_ _ _ _ _; subst hKo_)))
                  conv => whnf
                  refine ⟨hgn.symm, ?_⟩
                  repeat ((conv => whnf); (first | refine Cnd.yes ?_ | refine Cnd.no ?_ | refine And.intro rfl ?_ | refine aom ?_ | refine Alt.std ?_ | (show Ko_ _ _ _ _; subst hKo_)))
                  conv => whnf
                  exact ⟨0 + 1, hin, rfl, rfl, (tmkK_eq _ _ _ _).mpr rfl, rfl⟩
            ·
              repeat ((conv => whnf); (first | refine Cnd.yes ?_ | refine Cnd.no ?_ | refine And.intro rfl ?_ | refine aom ?_ | refine Alt.std ?_ | (show Ko_ _ _ _ _; subst hKo_) | refine ctt ?_ | refine cff ?_))
              conv => whnf
              by_cases hw : 0 ≤ srcI O W x p r 1
              · obtain ⟨q, hq⟩ : ∃ q : Nat, srcI O W x p r 1 = q := ⟨(srcI O W x p r 1).toNat, by omega⟩
                have hqn : q < O.length := by have := (srcF_rng O p r _ (hWO.r (byX x 1)) (by omega)).2; rw [show srcF O p r (W (byX x 1)) = srcI O W x p r 1 from hso] at this; omega
                have hmq : O.getD q (0, 0) ∈ O := by simp [List.getD, hqn]
                have hwant : wantN H O W bl x p r 1 = byteN (opAt H (O.getD q (0, 0))).v (opAt H (O.getD q (0, 0))).ad (byX x 1) := by unfold wantN; dsimp only; rw [if_pos hw, hq, Int.toNat_natCast]
                rw [hwant] at hgn
                rw [hq]
                repeat ((conv => whnf); (first | refine Cnd.yes ?_ | refine Cnd.no ?_ | refine And.intro rfl ?_ | refine aom ?_ | refine Alt.std ?_ | (show Ko_ _ _ _ _; subst hKo_) | refine ctt ?_ | refine cff ?_))
                conv => whnf
                refine ⟨true, eh, eo, eb, H, O, P, Q, r1, r2, N1, N2', bl, q, rfl, rfl, hH, hqn, hr _ hmq, ?_⟩
                repeat ((conv => whnf); (first | refine Cnd.yes ?_ | refine Cnd.no ?_ | refine And.intro rfl ?_ | refine aom ?_ | refine Alt.std ?_ | (show Ko_ _ _ _ _; subst hKo_) | refine ctt ?_ | refine cff ?_))
                conv => whnf
                refine ⟨(opAt H (O.getD q (0, 0))).v, (opAt H (O.getD q (0, 0))).ad, byX x 1, rfl, rfl, ?_⟩
                repeat ((conv => whnf); (first | refine Cnd.yes ?_ | refine Cnd.no ?_ | refine And.intro rfl ?_ | refine aom ?_ | refine Alt.std ?_ | (show Ko_ _ _ _ _; subst hKo_) | refine ctt ?_ | refine cff ?_))
                conv => whnf
                cases hg : goodI H O W bl x p r 1 with
                | false =>
                  rw [hg, Bool.false_and] at hgn
                  repeat ((conv => whnf); (first | refine Cnd.yes ?_ | refine Cnd.no ?_ | refine And.intro rfl ?_ | refine aom ?_ | refine Alt.std ?_ | (show Ko_ _ _ _ _; subst hKo_) | refine ctt ?_ | refine cff ?_))
                  conv => whnf
                  (refine ⟨(fun s : Nat => z - s) (1 + 1), [0, 1, 2, 3, 4, 5, 6, 7, 8, 9, 10, 11, 12], tmk 100 0 ((fun s : Nat => [(0, .ptr 0 0 0 0), (2, .v .nilIface), (3, .v (.int .i64 p)), (4, .ptr 9 0 0 0), (5, .ptr 10 0 0 0), (6, .ptr 11 0 0 0), (7, .v (.bool (goodI H O W bl x p r s))), (16, .slc 2 2 0 O.length), (17, .v (.int .i64 O.length)), (18, .v (.int .i64 p)), (38, .slc 12 1 0 z), (39, .v (.int .i64 z)), (40, .v (.int .i64 s))]) (1 + 1)), (fun s : Nat => chk true eh eo eb H O P Q r1 r2 N1 N2' bl ++ [Ent.cells 41 [.v (.int .i64 r.1), .v (.int .i64 r.2)], .cells 38 (osv x), .cells 104 [.v (.int .i64 (fromI O W x p r s 0)), .v (.int .i64 (fromI O W x p r s 1)), .v (.int .i64 (fromI O W x p r s 2)), .v (.int .i64 (fromI O W x p r s 3))], .row true 36 [.int .u32] ((byL x z).map urow)]) (1 + 1), ?_, ?_⟩; focus (first | (simp only []; omega) | omega))
                  repeat ((conv => whnf); (first | refine Cnd.yes ?_ | refine Cnd.no ?_ | refine And.intro rfl ?_ | refine aom ?_ | refine Alt.std ?_ | (show Ko_ _ _ _ _; subst hKo_)))
                  conv => whnf
                  refine ⟨hgn.symm, ?_⟩
                  repeat ((conv => whnf); (first | refine Cnd.yes ?_ | refine Cnd.no ?_ | refine And.intro rfl ?_ | refine aom ?_ | refine Alt.std ?_ | (show Ko_ _ _ _ _; subst hKo_)))
                  conv => whnf
                  refine ⟨hq.symm, ?_⟩
                  repeat ((conv => whnf); (first | refine Cnd.yes ?_ | refine Cnd.no ?_ | refine And.intro rfl ?_ | refine aom ?_ | refine Alt.std ?_ | (show Ko_ _ _ _ _; subst hKo_)))
                  conv => whnf
                  exact ⟨1 + 1, hin, rfl, rfl, (tmkK_eq _ _ _ _).mpr rfl, rfl⟩
                | true =>
                  rw [hg, Bool.true_and] at hgn
                  repeat ((conv => whnf); (first | refine Cnd.yes ?_ | refine Cnd.no ?_ | refine And.intro rfl ?_ | refine aom ?_ | refine Alt.std ?_ | (show Ko_ _ _ _ _; subst hKo_) | refine ctt ?_ | refine cff ?_))
                  conv => whnf
                  refine ⟨x.g, x.ad, byX x 1, rfl, rfl, ?_⟩
                  repeat ((conv => whnf); (first | refine Cnd.yes ?_ | refine Cnd.no ?_ | refine And.intro rfl ?_ | refine aom ?_ | refine Alt.std ?_ | (show Ko_ _ _ _ _; subst hKo_) | refine ctt ?_ | refine cff ?_))
                  conv => whnf
                  (refine ⟨(fun s : Nat => z - s) (1 + 1), [0, 1, 2, 3, 4, 5, 6, 7, 8, 9, 10, 11, 12], tmk 100 0 ((fun s : Nat => [(0, .ptr 0 0 0 0), (2, .v .nilIface), (3, .v (.int .i64 p)), (4, .ptr 9 0 0 0), (5, .ptr 10 0 0 0), (6, .ptr 11 0 0 0), (7, .v (.bool (goodI H O W bl x p r s))), (16, .slc 2 2 0 O.length), (17, .v (.int .i64 O.length)), (18, .v (.int .i64 p)), (38, .slc 12 1 0 z), (39, .v (.int .i64 z)), (40, .v (.int .i64 s))]) (1 + 1)), (fun s : Nat => chk true eh eo eb H O P Q r1 r2 N1 N2' bl ++ [Ent.cells 41 [.v (.int .i64 r.1), .v (.int .i64 r.2)], .cells 38 (osv x), .cells 104 [.v (.int .i64 (fromI O W x p r s 0)), .v (.int .i64 (fromI O W x p r s 1)), .v (.int .i64 (fromI O W x p r s 2)), .v (.int .i64 (fromI O W x p r s 3))], .row true 36 [.int .u32] ((byL x z).map urow)]) (1 + 1), ?_, ?_⟩; focus (first | (simp only []; omega) | omega))
                  repeat ((conv => whnf); (first | refine Cnd.yes ?_ | refine Cnd.no ?_ | refine And.intro rfl ?_ | refine aom ?_ | refine Alt.std ?_ | (show Ko_ _ _ _ _; subst hKo_)))
                  conv => whnf
                  refine ⟨hgn.symm, ?_⟩
                  repeat ((conv => whnf); (first | refine Cnd.yes ?_ | refine Cnd.no ?_ | refine And.intro rfl ?_ | refine aom ?_ | refine Alt.std ?_ | (show Ko_ _ _ _ _; subst hKo_)))
                  conv => whnf
                  refine ⟨hq.symm, ?_⟩
                  repeat ((conv => whnf); (first | refine Cnd.yes ?_ | refine Cnd.no ?_ | refine And.intro rfl ?_ | refine aom ?_ | refine Alt.std ?_ | (show Ko_ _ _ _ _; subst hKo_)))
                  conv => whnf
                  exact ⟨1 + 1, hin, rfl, rfl, (tmkK_eq _ _ _ _).mpr rfl, rfl⟩
              · have hwant : wantN H O W bl x p r 1 = firstN bl (byX x 1) := by unfold wantN; dsimp only; rw [if_neg hw]
                rw [hwant] at hgn
                repeat ((conv => whnf); (first | refine Cnd.yes ?_ | refine Cnd.no ?_ | refine And.intro rfl ?_ | refine aom ?_ | refine Alt.std ?_ | (show Ko_ _ _ _ _; subst hKo_) | refine ctt ?_ | refine cff ?_))
                conv => whnf
                refine ⟨true, eb, bl, byX x 1, rfl, rfl, (byX_rng x 1).1, (byX_rng x 1).2, ?_⟩
                repeat ((conv => whnf); (first | refine Cnd.yes ?_ | refine Cnd.no ?_ | refine And.intro rfl ?_ | refine aom ?_ | refine Alt.std ?_ | (show Ko_ _ _ _ _; subst hKo_) | refine ctt ?_ | refine cff ?_))
                conv => whnf
                cases hg : goodI H O W bl x p r 1 with
                | false =>
                  rw [hg, Bool.false_and] at hgn
                  repeat ((conv => whnf); (first | refine Cnd.yes ?_ | refine Cnd.no ?_ | refine And.intro rfl ?_ | refine aom ?_ | refine Alt.std ?_ | (show Ko_ _ _ _ _; subst hKo_) | refine ctt ?_ | refine cff ?_))
                  conv => whnf
                  (refine ⟨(fun s : Nat => z - s) (1 + 1), [0, 1, 2, 3, 4, 5, 6, 7, 8, 9, 10, 11, 12], tmk 100 0 ((fun s : Nat => [(0, .ptr 0 0 0 0), (2, .v .nilIface), (3, .v (.int .i64 p)), (4, .ptr 9 0 0 0), (5, .ptr 10 0 0 0), (6, .ptr 11 0 0 0), (7, .v (.bool (goodI H O W bl x p r s))), (16, .slc 2 2 0 O.length), (17, .v (.int .i64 O.length)), (18, .v (.int .i64 p)), (38, .slc 12 1 0 z), (39, .v (.int .i64 z)), (40, .v (.int .i64 s))]) (1 + 1)), (fun s : Nat => chk true eh eo eb H O P Q r1 r2 N1 N2' bl ++ [Ent.cells 41 [.v (.int .i64 r.1), .v (.int .i64 r.2)], .cells 38 (osv x), .cells 104 [.v (.int .i64 (fromI O W x p r s 0)), .v (.int .i64 (fromI O W x p r s 1)), .v (.int .i64 (fromI O W x p r s 2)), .v (.int .i64 (fromI O W x p r s 3))], .row true 36 [.int .u32] ((byL x z).map urow)]) (1 + 1), ?_, ?_⟩; focus (first | (simp only []; omega) | omega))
                  repeat ((conv => whnf); (first | refine Cnd.yes ?_ | refine Cnd.no ?_ | refine And.intro rfl ?_ | refine aom ?_ | refine Alt.std ?_ | (show Ko_ _ _ _ _; subst hKo_)))
                  conv => whnf
                  refine ⟨hgn.symm, ?_⟩
                  repeat ((conv => whnf); (first | refine Cnd.yes ?_ | refine Cnd.no ?_ | refine And.intro rfl ?_ | refine aom ?_ | refine Alt.std ?_ | (show Ko_ _ _ _ _; subst hKo_)))
                  conv => whnf
                  exact ⟨1 + 1, hin, rfl, rfl, (tmkK_eq _ _ _ _).mpr rfl, rfl⟩
                | true =>
                  rw [hg, Bool.true_and] at hgn
                  repeat ((conv => whnf); (first | refine Cnd.yes ?_ | refine Cnd.no ?_ | refine And.intro rfl ?_ | refine aom ?_ | refine Alt.std ?_ | (show Ko_ _ _ _ _; subst hKo_) | refine ctt ?_ | refine cff ?_))
                  conv => whnf
                  refine ⟨x.g, x.ad, byX x 1, rfl, rfl, ?_⟩
                  repeat ((conv => whnf); (first | refine Cnd.yes ?_ | refine Cnd.no ?_ | refine And.intro rfl ?_ | refine aom ?_ | refine Alt.std ?_ | (show Ko_ _ _ _ _; subst hKo_) | refine ctt ?_ | refine cff ?_))
                  conv => whnf
                  (refine ⟨(fun s : Nat => z - s) (1 + 1), [0, 1, 2, 3, 4, 5, 6, 7, 8, 9, 10, 11, 12], tmk 100 0 ((fun s : Nat => [(0, .ptr 0 0 0 0), (2, .v .nilIface), (3, .v (.int .i64 p)), (4, .ptr 9 0 0 0), (5, .ptr 10 0 0 0), (6, .ptr 11 0 0 0), (7, .v (.bool (goodI H O W bl x p r s))), (16, .slc 2 2 0 O.length), (17, .v (.int .i64 O.length)), (18, .v (.int .i64 p)), (38, .slc 12 1 0 z), (39, .v (.int .i64 z)), (40, .v (.int .i64 s))]) (1 + 1)), (fun s : Nat => chk true eh eo eb H O P Q r1 r2 N1 N2' bl ++ [Ent.cells 41 [.v (.int .i64 r.1), .v (.int .i64 r.2)], .cells 38 (osv x), .cells 104 [.v (.int .i64 (fromI O W x p r s 0)), .v (.int .i64 (fromI O W x p r s 1)), .v (.int .i64 (fromI O W x p r s 2)), .v (.int .i64 (fromI O W x p r s 3))], .row true 36 [.int .u32] ((byL x z).map urow)]) (1 + 1), ?_, ?_⟩; focus (first | (simp only []; omega) | omega))
                  repeat ((conv => whnf); (first | refine Cnd.yes ?_ | refine Cnd.no ?_ | refine And.intro rfl ?_ | refine aom ?_ | refine Alt.std ?_ | (show Ko_ _ _ _ _; subst hKo_)))
                  conv => whnf
                  refine ⟨hgn.symm, ?_⟩
                  repeat ((conv => whnf); (first | refine Cnd.yes ?_ | refine Cnd.no ?_ | refine And.intro rfl ?_ | refine aom ?_ | refine Alt.std ?_ | (show Ko_ _ _ _ _; subst hKo_)))
                  conv => whnf
                  exact ⟨1 + 1, hin, rfl, rfl, (tmkK_eq _ _ _ _).mpr rfl, rfl⟩
            ·
              repeat ((conv => whnf); (first | refine Cnd.yes ?_ | refine Cnd.no ?_ | refine And.intro rfl ?_ | refine aom ?_ | refine Alt.std ?_ | (show Ko_ _ _ _ _; subst hKo_) | refine ctt ?_ | refine cff ?_))
              conv => whnf
              by_cases hw : 0 ≤ srcI O W x p r 2
              · obtain ⟨q, hq⟩ : ∃ q : Nat, srcI O W x p r 2 = q := ⟨(srcI O W x p r 2).toNat, by omega⟩
                have hqn : q < O.length := by have := (srcF_rng O p r _ (hWO.r (byX x 2)) (by omega)).2; rw [show srcF O p r (W (byX x 2)) = srcI O W x p r 2 from hso] at this; omega
                have hmq : O.getD q (0, 0) ∈ O := by simp [List.getD, hqn]
                have hwant : wantN H O W bl x p r 2 = byteN (opAt H (O.getD q (0, 0))).v (opAt H (O.getD q (0, 0))).ad (byX x 2) := by unfold wantN; dsimp only; rw [if_pos hw, hq, Int.toNat_natCast]
                rw [hwant] at hgn
                rw [hq]
                repeat ((conv => whnf); (first | refine Cnd.yes ?_ | refine Cnd.no ?_ | refine And.intro rfl ?_ | refine aom ?_ | refine Alt.std ?_ | (show Ko_ _ _ _ _; subst hKo_) | refine ctt ?_ | refine cff ?_))
                conv => whnf
                refine ⟨true, eh, eo, eb, H, O, P, Q, r1, r2, N1, N2', bl, q, rfl, rfl, hH, hqn, hr _ hmq, ?_⟩
                repeat ((conv => whnf); (first | refine Cnd.yes ?_ | refine Cnd.no ?_ | refine And.intro rfl ?_ | refine aom ?_ | refine Alt.std ?_ | (show Ko_ _ _ _ _; subst hKo_) | refine ctt ?_ | refine cff ?_))
                conv => whnf
                refine ⟨(opAt H (O.getD q (0, 0))).v, (opAt H (O.getD q (0, 0))).ad, byX x 2, rfl, rfl, ?_⟩
                repeat ((conv => whnf); (first | refine Cnd.yes ?_ | refine Cnd.no ?_ | refine And.intro rfl ?_ | refine aom ?_ | refine Alt.std ?_ | (show Ko_ _ _ _ _; subst hKo_) | refine ctt ?_ | refine cff ?_))
                conv => whnf
                cases hg : goodI H O W bl x p r 2 with
                | false =>
                  rw [hg, Bool.false_and] at hgn
                  repeat ((conv => whnf); (first | refine Cnd.yes ?_ | refine Cnd.no ?_ | refine And.intro rfl ?_ | refine aom ?_ | refine Alt.std ?_ | (show Ko_ _ _ _ _; subst hKo_) | refine ctt ?_ | refine cff ?_))
                  conv => whnf
                  (refine ⟨(fun s : Nat => z - s) (2 + 1), [0, 1, 2, 3, 4, 5, 6, 7, 8, 9, 10, 11, 12], tmk 100 0 ((fun s : Nat => [(0, .ptr 0 0 0 0), (2, .v .nilIface), (3, .v (.int .i64 p)), (4, .ptr 9 0 0 0), (5, .ptr 10 0 0 0), (6, .ptr 11 0 0 0), (7, .v (.bool (goodI H O W bl x p r s))), (16, .slc 2 2 0 O.length), (17, .v (.int .i64 O.length)), (18, .v (.int .i64 p)), (38, .slc 12 1 0 z), (39, .v (.int .i64 z)), (40, .v (.int .i64 s))]) (2 + 1)), (fun s : Nat => chk true eh eo eb H O P Q r1 r2 N1 N2' bl ++ [Ent.cells 41 [.v (.int .i64 r.1), .v (.int .i64 r.2)], .cells 38 (osv x), .cells 104 [.v (.int .i64 (fromI O W x p r s 0)), .v (.int .i64 (fromI O W x p r s 1)), .v (.int .i64 (fromI O W x p r s 2)), .v (.int .i64 (fromI O W x p r s 3))], .row true 36 [.int .u32] ((byL x z).map urow)]) (2 + 1), ?_, ?_⟩; focus (first | (simp only []; omega) | omega))
                  repeat ((conv => whnf); (first | refine Cnd.yes ?_ | refine Cnd.no ?_ | refine And.intro rfl ?_ | refine aom ?_ | refine Alt.std ?_ | (show Ko_ _ _ _ _; subst hKo_)))
                  conv => whnf
                  refine ⟨hgn.symm, ?_⟩
                  repeat ((conv => whnf); (first | refine Cnd.yes ?_ | refine Cnd.no ?_ | refine And.intro rfl ?_ | refine aom ?_ | refine Alt.std ?_ | (show Ko_ _ _ _ _; subst hKo_)))
                  conv => whnf
                  refine ⟨hq.symm, ?_⟩
                  repeat ((conv => whnf); (first | refine Cnd.yes ?_ | refine Cnd.no ?_ | refine And.intro rfl ?_ | refine aom ?_ | refine Alt.std ?_ | (show Ko_ _ _ _ _; subst hKo_)))
                  conv => whnf
                  exact ⟨2 + 1, hin, rfl, rfl, (tmkK_eq _ _ _ _).mpr rfl, rfl⟩
                | true =>
                  rw [hg, Bool.true_and] at hgn
                  repeat ((conv => whnf); (first | refine Cnd.yes ?_ | refine Cnd.no ?_ | refine And.intro rfl ?_ | refine aom ?_ | refine Alt.std ?_ | (show Ko_ _ _ _ _; subst hKo_) | refine ctt ?_ | refine cff ?_))
                  conv => whnf
                  refine ⟨x.g, x.ad, byX x 2, rfl, rfl, ?_⟩
                  repeat ((conv => whnf); (first | refine Cnd.yes ?_ | refine Cnd.no ?_ | refine And.intro rfl ?_ | refine aom ?_ | refine Alt.std ?_ | (show Ko_ _ _ _ _; subst hKo_) | refine ctt ?_ | refine cff ?_))
                  conv => whnf
                  (refine ⟨(fun s : Nat => z - s) (2 + 1), [0, 1, 2, 3, 4, 5, 6, 7, 8, 9, 10, 11, 12], tmk 100 0 ((fun s : Nat => [(0, .ptr 0 0 0 0), (2, .v .nilIface), (3, .v (.int .i64 p)), (4, .ptr 9 0 0 0), (5, .ptr 10 0 0 0), (6, .ptr 11 0 0 0), (7, .v (.bool (goodI H O W bl x p r s))), (16, .slc 2 2 0 O.length), (17, .v (.int .i64 O.length)), (18, .v (.int .i64 p)), (38, .slc 12 1 0 z), (39, .v (.int .i64 z)), (40, .v (.int .i64 s))]) (2 + 1)), (fun s : Nat => chk true eh eo eb H O P Q r1 r2 N1 N2' bl ++ [Ent.cells 41 [.v (.int .i64 r.1), .v (.int .i64 r.2)], .cells 38 (osv x), .cells 104 [.v (.int .i64 (fromI O W x p r s 0)), .v (.int .i64 (fromI O W x p r s 1)), .v (.int .i64 (fromI O W x p r s 2)), .v (.int .i64 (fromI O W x p r s 3))], .row true 36 [.int .u32] ((byL x z).map urow)]) (2 + 1), ?_, ?_⟩; focus (first | (simp only []; omega) | omega))
                  repeat ((conv => whnf); (first | refine Cnd.yes ?_ | refine Cnd.no ?_ | refine And.intro rfl ?_ | refine aom ?_ | refine Alt.std ?_ | (show Ko_ _ _ _ _; subst hKo_)))
                  conv => whnf
                  refine ⟨hgn.symm, ?_⟩
                  repeat ((conv => whnf); (first | refine Cnd.yes ?_ | refine Cnd.no ?_ | refine And.intro rfl ?_ | refine aom ?_ | refine Alt.std ?_ | (show Ko_ _ _ _ _; subst hKo_)))
                  conv => whnf
                  refine ⟨hq.symm, ?_⟩
                  repeat ((conv => whnf); (first | refine Cnd.yes ?_ | refine Cnd.no ?_ | refine And.intro rfl ?_ | refine aom ?_ | refine Alt.std ?_ | (show Ko_ _ _ _ _; subst hKo_)))
                  conv => whnf
                  exact ⟨2 + 1, hin, rfl, rfl, (tmkK_eq _ _ _ _).mpr rfl, rfl⟩
              · have hwant : wantN H O W bl x p r 2 = firstN bl (byX x 2) := by unfold wantN; dsimp only; rw [if_neg hw]
                rw [hwant] at hgn
                repeat ((conv => whnf); (first | refine Cnd.yes ?_ | refine Cnd.no ?_ | refine And.intro rfl ?_ | refine aom ?_ | refine Alt.std ?_ | (show Ko_ _ _ _ _; subst hKo_) | refine ctt ?_ | refine cff ?_))
                conv => whnf
                refine ⟨true, eb, bl, byX x 2, rfl, rfl, (byX_rng x 2).1, (byX_rng x 2).2, ?_⟩
                repeat ((conv => whnf); (first | refine Cnd.yes ?_ | refine Cnd.no ?_ | refine And.intro rfl ?_ | refine aom ?_ | refine Alt.std ?_ | (show Ko_ _ _ _ _; subst hKo_) | refine ctt ?_ | refine cff ?_))
                conv => whnf
                cases hg : goodI H O W bl x p r 2 with
                | false =>
                  rw [hg, Bool.false_and] at hgn
                  repeat ((conv => whnf); (first | refine Cnd.yes ?_ | refine Cnd.no ?_ | refine And.intro rfl ?_ | refine aom ?_ | refine Alt.std ?_ | (show Ko_ _ _ _ _; subst hKo_) | refine ctt ?_ | refine cff ?_))
                  conv => whnf
                  (refine ⟨(fun s : Nat => z - s) (2 + 1), [0, 1, 2, 3, 4, 5, 6, 7, 8, 9, 10, 11, 12], tmk 100 0 ((fun s : Nat => [(0, .ptr 0 0 0 0), (2, .v .nilIface), (3, .v (.int .i64 p)), (4, .ptr 9 0 0 0), (5, .ptr 10 0 0 0), (6, .ptr 11 0 0 0), (7, .v (.bool (goodI H O W bl x p r s))), (16, .slc 2 2 0 O.length), (17, .v (.int .i64 O.length)), (18, .v (.int .i64 p)), (38, .slc 12 1 0 z), (39, .v (.int .i64 z)), (40, .v (.int .i64 s))]) (2 + 1)), (fun s : Nat => chk true eh eo eb H O P Q r1 r2 N1 N2' bl ++ [Ent.cells 41 [.v (.int .i64 r.1), .v (.int .i64 r.2)], .cells 38 (osv x), .cells 104 [.v (.int .i64 (fromI O W x p r s 0)), .v (.int .i64 (fromI O W x p r s 1)), .v (.int .i64 (fromI O W x p r s 2)), .v (.int .i64 (fromI O W x p r s 3))], .row true 36 [.int .u32] ((byL x z).map urow)]) (2 + 1), ?_, ?_⟩; focus (first | (simp only []; omega) | omega))
                  repeat ((conv => whnf); (first | refine Cnd.yes ?_ | refine Cnd.no ?_ | refine And.intro rfl ?_ | refine aom ?_ | refine Alt.std ?_ | (show Ko_ _ _ _ _; subst hKo_)))
                  conv => whnf
                  refine ⟨hgn.symm, ?_⟩
                  repeat ((conv => whnf); (first | refine Cnd.yes ?_ | refine Cnd.no ?_ | refine And.intro rfl ?_ | refine aom ?_ | refine Alt.std ?_ | (show Ko_ _ _ _ _; subst hKo_)))
                  conv => whnf
                  exact ⟨2 + 1, hin, rfl, rfl, (tmkK_eq _ _ _ _).mpr rfl, rfl⟩
                | true =>
                  rw [hg, Bool.true_and] at hgn
                  repeat ((conv => whnf); (first | refine Cnd.yes ?_ | refine Cnd.no ?_ | refine And.intro rfl ?_ | refine aom ?_ | refine Alt.std ?_ | (show Ko_ _ _ _ _; subst hKo_) | refine ctt ?_ | refine cff ?_))
                  conv => whnf
                  refine ⟨x.g, x.ad, byX x 2, rfl, rfl, ?_⟩
                  repeat ((conv => whnf); (first | refine Cnd.yes ?_ | refine Cnd.no ?_ | refine And.intro rfl ?_ | refine aom ?_ | refine Alt.std ?_ | (show Ko_ _ _ _ _; subst hKo_) | refine ctt ?_ | refine cff ?_))
                  conv => whnf
                  (refine ⟨(fun s : Nat => z - s) (2 + 1), [0, 1, 2, 3, 4, 5, 6, 7, 8, 9, 10, 11, 12], tmk 100 0 ((fun s : Nat => [(0, .ptr 0 0 0 0), (2, .v .nilIface), (3, .v (.int .i64 p)), (4, .ptr 9 0 0 0), (5, .ptr 10 0 0 0), (6, .ptr 11 0 0 0), (7, .v (.bool (goodI H O W bl x p r s))), (16, .slc 2 2 0 O.length), (17, .v (.int .i64 O.length)), (18, .v (.int .i64 p)), (38, .slc 12 1 0 z), (39, .v (.int .i64 z)), (40, .v (.int .i64 s))]) (2 + 1)), (fun s : Nat => chk true eh eo eb H O P Q r1 r2 N1 N2' bl ++ [Ent.cells 41 [.v (.int .i64 r.1), .v (.int .i64 r.2)], .cells 38 (osv x), .cells 104 [.v (.int .i64 (fromI O W x p r s 0)), .v (.int .i64 (fromI O W x p r s 1)), .v (.int .i64 (fromI O W x p r s 2)), .v (.int .i64 (fromI O W x p r s 3))], .row true 36 [.int .u32] ((byL x z).map urow)]) (2 + 1), ?_, ?_⟩; focus (first | (simp only []; omega) | omega))
                  repeat ((conv => whnf); (first | refine Cnd.yes ?_ | refine Cnd.no ?_ | refine And.intro rfl ?_ | refine aom ?_ | refine Alt.std ?_ | (show Ko_ _ _ _ _; subst hKo_)))
                  conv => whnf
                  refine ⟨hgn.symm, ?_⟩
                  repeat ((conv => whnf); (first | refine Cnd.yes ?_ | refine Cnd.no ?_ | refine And.intro rfl ?_ | refine aom ?_ | refine Alt.std ?_ | (show Ko_ _ _ _ _; subst hKo_)))
                  conv => whnf
                  exact ⟨2 + 1, hin, rfl, rfl, (tmkK_eq _ _ _ _).mpr rfl, rfl⟩
            ·
              repeat ((conv => whnf); (first | refine Cnd.yes ?_ | refine Cnd.no ?_ | refine And.intro rfl ?_ | refine aom ?_ | refine Alt.std ?_ | (show Ko_ _ _ _ _; subst hKo_) | refine ctt ?_ | refine cff ?_))
              conv => whnf
              by_cases hw : 0 ≤ srcI O W x p r 3
              · obtain ⟨q, hq⟩ : ∃ q : Nat, srcI O W x p r 3 = q := ⟨(srcI O W x p r 3).toNat, by omega⟩
                have hqn : q < O.length := by have := (srcF_rng O p r _ (hWO.r (byX x 3)) (by omega)).2; rw [show srcF O p r (W (byX x 3)) = srcI O W x p r 3 from hso] at this; omega
                have hmq : O.getD q (0, 0) ∈ O := by simp [List.getD, hqn]
                have hwant : wantN H O W bl x p r 3 = byteN (opAt H (O.getD q (0, 0))).v (opAt H (O.getD q (0, 0))).ad (byX x 3) := by unfold wantN; dsimp only; rw [if_pos hw, hq, Int.toNat_natCast]
                rw [hwant] at hgn
                rw [hq]
                repeat ((conv => whnf); (first | refine Cnd.yes ?_ | refine Cnd.no ?_ | refine And.intro rfl ?_ | refine aom ?_ | refine Alt.std ?_ | (show Ko_ _ _ _ _; subst hKo_) | refine ctt ?_ | refine cff ?_))
                conv => whnf
                refine ⟨true, eh, eo, eb, H, O, P, Q, r1, r2, N1, N2', bl, q, rfl, rfl, hH, hqn, hr _ hmq, ?_⟩
                repeat ((conv => whnf); (first | refine Cnd.yes ?_ | refine Cnd.no ?_ | refine And.intro rfl ?_ | refine aom ?_ | refine Alt.std ?_ | (show Ko_ _ _ _ _; subst hKo_) | refine ctt ?_ | refine cff ?_))
                conv => whnf
                refine ⟨(opAt H (O.getD q (0, 0))).v, (opAt H (O.getD q (0, 0))).ad, byX x 3, rfl, rfl, ?_⟩
                repeat ((conv => whnf); (first | refine Cnd.yes ?_ | refine Cnd.no ?_ | refine And.intro rfl ?_ | refine aom ?_ | refine Alt.std ?_ | (show Ko_ _ _ _ _; subst hKo_) | refine ctt ?_ | refine cff ?_))
                conv => whnf
                cases hg : goodI H O W bl x p r 3 with
                | false =>
                  rw [hg, Bool.false_and] at hgn
                  repeat ((conv => whnf); (first | refine Cnd.yes ?_ | refine Cnd.no ?_ | refine And.intro rfl ?_ | refine aom ?_ | refine Alt.std ?_ | (show Ko_ _ _ _ _; subst hKo_) | refine ctt ?_ | refine cff ?_))
                  conv => whnf
                  (refine ⟨(fun s : Nat => z - s) (3 + 1), [0, 1, 2, 3, 4, 5, 6, 7, 8, 9, 10, 11, 12], tmk 100 0 ((fun s : Nat => [(0, .ptr 0 0 0 0), (2, .v .nilIface), (3, .v (.int .i64 p)), (4, .ptr 9 0 0 0), (5, .ptr 10 0 0 0), (6, .ptr 11 0 0 0), (7, .v (.bool (goodI H O W bl x p r s))), (16, .slc 2 2 0 O.length), (17, .v (.int .i64 O.length)), (18, .v (.int .i64 p)), (38, .slc 12 1 0 z), (39, .v (.int .i64 z)), (40, .v (.int .i64 s))]) (3 + 1)), (fun s : Nat => chk true eh eo eb H O P Q r1 r2 N1 N2' bl ++ [Ent.cells 41 [.v (.int .i64 r.1), .v (.int .i64 r.2)], .cells 38 (osv x), .cells 104 [.v (.int .i64 (fromI O W x p r s 0)), .v (.int .i64 (fromI O W x p r s 1)), .v (.int .i64 (fromI O W x p r s 2)), .v (.int .i64 (fromI O W x p r s 3))], .row true 36 [.int .u32] ((byL x z).map urow)]) (3 + 1), ?_, ?_⟩; focus (first | (simp only []; omega) | omega))
                  repeat ((conv => whnf); (first | refine Cnd.yes ?_ | refine Cnd.no ?_ | refine And.intro rfl ?_ | refine aom ?_ | refine Alt.std ?_ | (show Ko_ _ _ _ _; subst hKo_)))
                  conv => whnf
                  refine ⟨hgn.symm, ?_⟩
                  repeat ((conv => whnf); (first | refine Cnd.yes ?_ | refine Cnd.no ?_ | refine And.intro rfl ?_ | refine aom ?_ | refine Alt.std ?_ | (show Ko_ _ _ _ _; subst hKo_)))
                  conv => whnf
                  refine ⟨hq.symm, ?_⟩
                  repeat ((conv => whnf); (first | refine Cnd.yes ?_ | refine Cnd.no ?_ | refine And.intro rfl ?_ | refine aom ?_ | refine Alt.std ?_ | (show Ko_ _ _ _ _; subst hKo_)))
                  conv => whnf
                  exact ⟨3 + 1, hin, rfl, rfl, (tmkK_eq _ _ _ _).mpr rfl, rfl⟩
                | true =>
                  rw [hg, Bool.true_and] at hgn
                  repeat ((conv => whnf); (first | refine Cnd.yes ?_ | refine Cnd.no ?_ | refine And.intro rfl ?_ | refine aom ?_ | refine Alt.std ?_ | (show Ko_ _ _ _ _; subst hKo_) | refine ctt ?_ | refine cff ?_))
                  conv => whnf
                  refine ⟨x.g, x.ad, byX x 3, rfl, rfl, ?_⟩
                  repeat ((conv => whnf); (first | refine Cnd.yes ?_ | refine Cnd.no ?_ | refine And.intro rfl ?_ | refine aom ?_ | refine Alt.std ?_ | (show Ko_ _ _ _ _; subst hKo_) | refine ctt ?_ | refine cff ?_))
                  conv => whnf
                  (refine ⟨(fun s : Nat => z - s) (3 + 1), [0, 1, 2, 3, 4, 5, 6, 7, 8, 9, 10, 11, 12], tmk 100 0 ((fun s : Nat => [(0, .ptr 0 0 0 0), (2, .v .nilIface), (3, .v (.int .i64 p)), (4, .ptr 9 0 0 0), (5, .ptr 10 0 0 0), (6, .ptr 11 0 0 0), (7, .v (.bool (goodI H O W bl x p r s))), (16, .slc 2 2 0 O.length), (17, .v (.int .i64 O.length)), (18, .v (.int .i64 p)), (38, .slc 12 1 0 z), (39, .v (.int .i64 z)), (40, .v (.int .i64 s))]) (3 + 1)), (fun s : Nat => chk true eh eo eb H O P Q r1 r2 N1 N2' bl ++ [Ent.cells 41 [.v (.int .i64 r.1), .v (.int .i64 r.2)], .cells 38 (osv x), .cells 104 [.v (.int .i64 (fromI O W x p r s 0)), .v (.int .i64 (fromI O W x p r s 1)), .v (.int .i64 (fromI O W x p r s 2)), .v (.int .i64 (fromI O W x p r s 3))], .row true 36 [.int .u32] ((byL x z).map urow)]) (3 + 1), ?_, ?_⟩; focus (first | (simp only []; omega) | omega))
                  repeat ((conv => whnf); (first | refine Cnd.yes ?_ | refine Cnd.no ?_ | refine And.intro rfl ?_ | refine aom ?_ | refine Alt.std ?_ | (show Ko_ _ _ _ _; subst hKo_)))
                  conv => whnf
                  refine ⟨hgn.symm, ?_⟩
                  repeat ((conv => whnf); (first | refine Cnd.yes ?_ | refine Cnd.no ?_ | refine And.intro rfl ?_ | refine aom ?_ | refine Alt.std ?_ | (show Ko_ _ _ _ _; subst hKo_)))
                  conv => whnf
                  refine ⟨hq.symm, ?_⟩
                  repeat ((conv => whnf); (first | refine Cnd.yes ?_ | refine Cnd.no ?_ | refine And.intro rfl ?_ | refine aom ?_ | refine Alt.std ?_ | (show Ko_ _ _ _ _; subst hKo_)))
                  conv => whnf
                  exact ⟨3 + 1, hin, rfl, rfl, (tmkK_eq _ _ _ _).mpr rfl, rfl⟩
              · have hwant : wantN H O W bl x p r 3 = firstN bl (byX x 3) := by unfold wantN; dsimp only; rw [if_neg hw]
                rw [hwant] at hgn
                repeat ((conv => whnf); (first | refine Cnd.yes ?_ | refine Cnd.no ?_ | refine And.intro rfl ?_ | refine aom ?_ | refine Alt.std ?_ | (show Ko_ _ _ _ _; subst hKo_) | refine ctt ?_ | refine cff ?_))
                conv => whnf
                refine ⟨true, eb, bl, byX x 3, rfl, rfl, (byX_rng x 3).1, (byX_rng x 3).2, ?_⟩
                repeat ((conv => whnf); (first | refine Cnd.yes ?_ | refine Cnd.no ?_ | refine And.intro rfl ?_ | refine aom ?_ | refine Alt.std ?_ | (show Ko_ _ _ _ _; subst hKo_) | refine ctt ?_ | refine cff ?_))
                conv => whnf
                cases hg : goodI H O W bl x p r 3 with
                | false =>
                  rw [hg, Bool.false_and] at hgn
                  repeat ((conv => whnf); (first | refine Cnd.yes ?_ | refine Cnd.no ?_ | refine And.intro rfl ?_ | refine aom ?_ | refine Alt.std ?_ | (show Ko_ _ _ _ _; subst hKo_) | refine ctt ?_ | refine cff ?_))
                  conv => whnf
                  (refine ⟨(fun s : Nat => z - s) (3 + 1), [0, 1, 2, 3, 4, 5, 6, 7, 8, 9, 10, 11, 12], tmk 100 0 ((fun s : Nat => [(0, .ptr 0 0 0 0), (2, .v .nilIface), (3, .v (.int .i64 p)), (4, .ptr 9 0 0 0), (5, .ptr 10 0 0 0), (6, .ptr 11 0 0 0), (7, .v (.bool (goodI H O W bl x p r s))), (16, .slc 2 2 0 O.length), (17, .v (.int .i64 O.length)), (18, .v (.int .i64 p)), (38, .slc 12 1 0 z), (39, .v (.int .i64 z)), (40, .v (.int .i64 s))]) (3 + 1)), (fun s : Nat => chk true eh eo eb H O P Q r1 r2 N1 N2' bl ++ [Ent.cells 41 [.v (.int .i64 r.1), .v (.int .i64 r.2)], .cells 38 (osv x), .cells 104 [.v (.int .i64 (fromI O W x p r s 0)), .v (.int .i64 (fromI O W x p r s 1)), .v (.int .i64 (fromI O W x p r s 2)), .v (.int .i64 (fromI O W x p r s 3))], .row true 36 [.int .u32] ((byL x z).map urow)]) (3 + 1), ?_, ?_⟩; focus (first | (simp only []; omega) | omega))
                  repeat ((conv => whnf); (first | refine Cnd.yes ?_ | refine Cnd.no ?_ | refine And.intro rfl ?_ | refine aom ?_ | refine Alt.std ?_ | (show Ko_ _ _ _ _; subst hKo_)))
                  conv => whnf
                  refine ⟨hgn.symm, ?_⟩
                  repeat ((conv => whnf); (first | refine Cnd.yes ?_ | refine Cnd.no ?_ | refine And.intro rfl ?_ | refine aom ?_ | refine Alt.std ?_ | (show Ko_ _ _ _ _; subst hKo_)))
                  conv => whnf
                  exact ⟨3 + 1, hin, rfl, rfl, (tmkK_eq _ _ _ _).mpr rfl, rfl⟩
                | true =>
                  rw [hg, Bool.true_and] at hgn
                  repeat ((conv => whnf); (first | refine Cnd.yes ?_ | refine Cnd.no ?_ | refine And.intro rfl ?_ | refine aom ?_ | refine Alt.std ?_ | (show Ko_ _ _ _ _; subst hKo_) | refine ctt ?_ | refine cff ?_))
                  conv => whnf
                  refine ⟨x.g, x.ad, byX x 3, rfl, rfl, ?_⟩
                  repeat ((conv => whnf); (first | refine Cnd.yes ?_ | refine Cnd.no ?_ | refine And.intro rfl ?_ | refine aom ?_ | refine Alt.std ?_ | (show Ko_ _ _ _ _; subst hKo_) | refine ctt ?_ | refine cff ?_))
                  conv => whnf
                  (refine ⟨(fun s : Nat => z - s) (3 + 1), [0, 1, 2, 3, 4, 5, 6, 7, 8, 9, 10, 11, 12], tmk 100 0 ((fun s : Nat => [(0, .ptr 0 0 0 0), (2, .v .nilIface), (3, .v (.int .i64 p)), (4, .ptr 9 0 0 0), (5, .ptr 10 0 0 0), (6, .ptr 11 0 0 0), (7, .v (.bool (goodI H O W bl x p r s))), (16, .slc 2 2 0 O.length), (17, .v (.int .i64 O.length)), (18, .v (.int .i64 p)), (38, .slc 12 1 0 z), (39, .v (.int .i64 z)), (40, .v (.int .i64 s))]) (3 + 1)), (fun s : Nat => chk true eh eo eb H O P Q r1 r2 N1 N2' bl ++ [Ent.cells 41 [.v (.int .i64 r.1), .v (.int .i64 r.2)], .cells 38 (osv x), .cells 104 [.v (.int .i64 (fromI O W x p r s 0)), .v (.int .i64 (fromI O W x p r s 1)), .v (.int .i64 (fromI O W x p r s 2)), .v (.int .i64 (fromI O W x p r s 3))], .row true 36 [.int .u32] ((byL x z).map urow)]) (3 + 1), ?_, ?_⟩; focus (first | (simp only []; omega) | omega))
                  repeat ((conv => whnf); (first | refine Cnd.yes ?_ | refine Cnd.no ?_ | refine And.intro rfl ?_ | refine aom ?_ | refine Alt.std ?_ | (show Ko_ _ _ _ _; subst hKo_)))
                  conv => whnf
                  refine ⟨hgn.symm, ?_⟩
                  repeat ((conv => whnf); (first | refine Cnd.yes ?_ | refine Cnd.no ?_ | refine And.intro rfl ?_ | refine aom ?_ | refine Alt.std ?_ | (show Ko_ _ _ _ _; subst hKo_)))
                  conv => whnf
                  exact ⟨3 + 1, hin, rfl, rfl, (tmkK_eq _ _ _ _).mpr rfl, rfl⟩
          · obtain rfl : i = z := by have := of_decide_eq_false hge2; omega
            repeat ((conv => whnf); (first | refine Cnd.yes ?_ | refine Cnd.no ?_ | refine And.intro rfl ?_ | refine aom ?_ | refine Alt.std ?_ | (show Ko_ _ _ _ _; subst hKo_) | refine ctt ?_ | refine cff ?_))
            conv => whnf
            cases hg : goodI H O W bl x p r i with
            | false =>
              rw [hg] at hbad
              repeat ((conv => whnf); (first | refine Cnd.yes ?_ | refine Cnd.no ?_ | refine And.intro rfl ?_ | refine aom ?_ | refine Alt.std ?_ | (show Ko_ _ _ _ _; subst hKo_) | refine ctt ?_ | refine cff ?_))
              conv => whnf
              refine ⟨_, hS.g 3 (by omega), ?_⟩
              repeat ((conv => whnf); (first | refine Cnd.yes ?_ | refine Cnd.no ?_ | refine And.intro rfl ?_ | refine aom ?_ | refine Alt.std ?_ | (show Ko_ _ _ _ _; subst hKo_) | refine ctt ?_ | refine cff ?_))
              conv => whnf
              refine ⟨[0, 1, 2, 3, 4, 5, 6, 7, 8, 13], .ifc 97 (.ptr 9 0 0 0), chk true eh eo eb H O P Q r1 r2 N1 N2' bl ++ [atE ad 10 p], ?_⟩
              repeat ((conv => whnf); (first | refine Cnd.yes ?_ | refine Cnd.no ?_ | refine And.intro rfl ?_ | refine aom ?_ | refine Alt.std ?_ | (show Ko_ _ _ _ _; subst hKo_)))
              conv => whnf
              exact hK2 p hpn hbad hall _
            | true =>
              rw [hg] at hbad
              repeat ((conv => whnf); (first | refine Cnd.yes ?_ | refine Cnd.no ?_ | refine And.intro rfl ?_ | refine aom ?_ | refine Alt.std ?_ | (show Ko_ _ _ _ _; subst hKo_) | refine ctt ?_ | refine cff ?_))
              conv => whnf
              refine ⟨N2', _, rfl, hFr, ?_⟩
              repeat ((conv => whnf); (first | refine Cnd.yes ?_ | refine Cnd.no ?_ | refine And.intro rfl ?_ | refine aom ?_ | refine Alt.std ?_ | (show Ko_ _ _ _ _; subst hKo_) | refine ctt ?_ | refine cff ?_))
              conv => whnf
              intro N3 hk3 hM3
              repeat ((conv => whnf); (first | refine Cnd.yes ?_ | refine Cnd.no ?_ | refine And.intro rfl ?_ | refine aom ?_ | refine Alt.std ?_ | (show Ko_ _ _ _ _; subst hKo_) | refine ctt ?_ | refine cff ?_))
              conv => whnf
              (refine ⟨(fun s : (Nat × HL) => O.length - s.1) ((p + 1, N3)), [0, 1, 2, 3, 4, 5, 6, 7, 8], tmk 100 0 ((fun s : (Nat × HL) => [(0, .ptr 0 0 0 0), (2, .v .nilIface), (16, .slc 2 2 0 O.length), (17, .v (.int .i64 O.length)), (18, .v (.int .i64 s.1))]) ((p + 1, N3))), (fun s : (Nat × HL) => chk true eh eo eb H O P Q r1 r2 N1 s.2 bl) ((p + 1, N3)), ?_, ?_⟩; focus (first | (simp only []; omega) | omega))
              repeat ((conv => whnf); (first | refine Cnd.yes ?_ | refine Cnd.no ?_ | refine And.intro rfl ?_ | refine aom ?_ | refine Alt.std ?_ | (show Ko_ _ _ _ _; subst hKo_)))
              conv => whnf
              exact ⟨(p + 1, N3), ⟨hpn, fun q hq => by rcases Nat.lt_succ_iff_lt_or_eq.1 hq with h | h; exact hall q h; rw [h]; exact hbad, frIn_next hrd hfn hM3⟩, rfl, rfl, (tmkK_eq _ _ _ _).mpr rfl, rfl⟩
    · obtain rfl : p = O.length := by have := of_decide_eq_false hge; omega
      repeat ((conv => whnf); (first | refine Cnd.yes ?_ | refine Cnd.no ?_ | refine And.intro rfl ?_ | refine aom ?_ | refine Alt.std ?_ | (show Ko_ _ _ _ _; subst hKo_) | refine ctt ?_ | refine cff ?_))
      conv => whnf
      refine ⟨[0, 1, 2, 3, 4, 5, 6, 7, 8], .v .nilIface, chk true eh eo eb H O P Q r1 r2 N1 N2' bl, ?_⟩
      repeat ((conv => whnf); (first | refine Cnd.yes ?_ | refine Cnd.no ?_ | refine And.intro rfl ?_ | refine aom ?_ | refine Alt.std ?_ | (show Ko_ _ _ _ _; subst hKo_)))
      conv => whnf
      exact hK1 hall _ hFr
def valuesS : Vc.Spec := fun args hp M K => ∃ (ad : Nat → Addr) (eh eo eb : TypeId) (H : Hs) (O : List Rf) (P Q : List Value) (r1 r2 : Nat) (N1 N2 : HL) (bl : List Int) (W : Int → List Int), args = [.ptr 0 0 0 0] ∧ hp = chk true eh eo eb H O P Q r1 r2 N1 N2 bl ∧ Sents M ad ∧ HIn M H ∧ O.length ≤ 1000000 ∧ (∀ r ∈ O, RefOK H r) ∧ (∀ r ∈ O, SzOK (opAt H r)) ∧ WrIn N1 r1 W ∧ WOK W O.length ∧ FrIn N2 r2 (fun _ => none) ∧
  ∀ w, FirstAt (badV H O W bl) O.length w → ∀ N2', (w = none → FrIn N2' r2 (frN H O W O.length)) → K (errV w) (chk true eh eo eb H O P Q r1 r2 N1 N2' bl ++ errH ad 10 w)
theorem values_ok : SOK Tryd.prog 37 valuesS := by
  refine TOK.weaken (TOK.out (runF_eq GP1_ok mixed at37.1 at37.2 pf37_eq)) fun args hp M K h => ?_
  obtain ⟨ad, eh, eo, eb, H, O, P, Q, r1, r2, N1, N2, bl, W, rfl, rfl, h1, h2, h3, h4, h5, h6, h7, h8, h9⟩ := h
  exact values_run M K ad h1 eh eo eb H O P Q r1 r2 N1 N2 bl W h2 h3 h4 h5 h6 h7 h8 (fun h N2' hF => by have := h9 none (.no h) N2' (fun _ => hF); rwa [errH, List.append_nil] at this) (fun p hp h ha N2' => h9 (some p) (.yes p hp h ha) N2' (fun h => by cases h))
end Go.Proofs.YtkfkoldaeplckaaDoor
