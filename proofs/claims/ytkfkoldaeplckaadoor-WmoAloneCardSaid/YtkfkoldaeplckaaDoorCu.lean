/-
  The checker's places: the plain part.
-/
import Derived.Test.YtkfkoldaeplckaaDoorCp
set_option linter.unusedSimpArgs false
set_option linter.unusedVariables false

namespace Go.Proofs.YtkfkoldaeplckaaDoor
open Go Go.Vc
set_option maxRecDepth 100000
set_option linter.unusedSimpArgs false
set_option linter.unusedVariables false
set_option maxHeartbeats 20000000
noncomputable def specsT1 : Nat → Option Vc.Trans := tget [(53, openAtG (frameT pairsS) 0), (55, frameT opS), (56, frameT wwrS), (57, frameT bytesS)]
noncomputable def GT1 : Nat → Option Vc.Trans := tabG specsT1 (tget tab) 5
theorem GT1_ok : GOK Tryd.prog GT1 := tabG_ok (GOK.cons (openAtG_ok (frame_ok pairs_ok) 0) (GOK.cons (frame_ok op_ok) (GOK.cons (frame_ok wwr_ok) (GOK.cons (frame_ok bytes_ok) .nil)))) tab_ok 5
def plh (eh eo eb : TypeId) (H : Hs) (O : List Rf) (P Q : List Value) (r1 r2 : Nat) (N1 N2 : HL) (bl : List Int) : List Ent := [
  .cells 80 [.slc 1 1 0 H.length, .slc 2 2 0 O.length, .slc 7 1 0 P.length, .slc 8 1 0 Q.length, .via 3 (.map (some r1)), .via 4 (.map (some r2)), .fn (.func 33) [] [.ptr 5 0 0 0]],
  .row true eh [.sl] (H.map hrow), .row true eo [.int .i64, .int .i64] (O.map rrow), .sub true N1, .sub true N2, .cells 72 [.slc 6 1 0 bl.length], .row true eb [.int .u8] (bl.map brow), .row true 23 [.sl] (P.map vrow), .row true 23 [.sl] (Q.map vrow)]
def pl0 (eh eo eb : TypeId) (H : Hs) (O : List Rf) (r1 r2 : Nat) (N1 N2 : HL) (bl : List Int) : List Ent := [
  .cells 80 [.slc 1 1 0 H.length, .slc 2 2 0 O.length, .v (.slice none 0 0), .v (.slice none 0 0), .via 3 (.map (some r1)), .via 4 (.map (some r2)), .fn (.func 33) [] [.ptr 5 0 0 0]],
  .row true eh [.sl] (H.map hrow), .row true eo [.int .i64, .int .i64] (O.map rrow), .sub true N1, .sub true N2, .cells 72 [.slc 6 1 0 bl.length], .row true eb [.int .u8] (bl.map brow)]
def nowhere (H : Hs) : List (List Int) := H.map fun p => List.replicate p.2.length (-1)
theorem PosIn.push {N N' : HL} {Q : List Value} {T : List (List Int)} (h : PosIn N Q T) (hN : FLe N N') {y : Value} {t : List Int} (hy : OwnIn N' 3 [.int .i64] y (t.map irow)) (hf : ∀ b, blkOf y = some b → N b = none) : PosIn N' (Q ++ [y]) (T ++ [t]) := by
  have hn := h.n
  have keep : ∀ k, k < T.length → OwnIn N' 3 [.int .i64] (Q.getD k nilV) ((T.getD k []).map irow) := fun k hk => (h.r k hk).keep fun b hb => by
    obtain ⟨cur, hc⟩ := (h.r k hk).blk hb
    rw [hc, hN _ _ hc]
  have hfr : ∀ k b, k < T.length → blkOf (Q.getD k nilV) = some b → blkOf y ≠ some b := fun k b hk hb hy => by
    obtain ⟨cur, hc⟩ := (h.r k hk).blk hb
    rw [hf b hy] at hc
    cases hc
  have g1 : ∀ k, k < T.length → (Q ++ [y]).getD k nilV = Q.getD k nilV := fun k hk => by simp [List.getD, List.getElem?_append_left (show k < Q.length by omega)]
  have g2 : (Q ++ [y]).getD T.length nilV = y := by simp [List.getD, ← hn]
  have t1 : ∀ k, k < T.length → (T ++ [t]).getD k [] = T.getD k [] := fun k hk => by simp [List.getD, List.getElem?_append_left hk]
  have t2 : (T ++ [t]).getD T.length [] = t := by simp [List.getD]
  refine ⟨by simp [hn], fun k hk => ?_, fun k g b hk hg hne hb => ?_⟩
  · by_cases hkl : k < T.length
    · rw [g1 k hkl, t1 k hkl]; exact keep k hkl
    · obtain rfl : k = T.length := by simp at hk; omega
      rw [g2, t2]; exact hy
  · simp at hk hg
    by_cases hkl : k < T.length
    · rw [g1 k hkl] at hb
      by_cases hgl : g < T.length
      · rw [g1 g hgl]; exact h.s k g b hkl hgl hne hb
      · obtain rfl : g = T.length := by omega
        rw [g2]; exact hfr k b hkl hb
    · obtain rfl : k = T.length := by omega
      rw [g2] at hb
      have hgl : g < T.length := by omega
      rw [g1 g hgl]
      exact fun h => hfr g b hgl h hb
theorem PrIn.push {M M' : HL} {P : List Value} {H : Hs} (h : PrIn M P H) (hM : FLe M M') {y : Value} {p : Value × List Op} (hy : Vc.RowsIn M' 3 [.int .i64] y ((pairsL p.2).map irow)) : PrIn M' (P ++ [y]) (H ++ [p]) := by
  have hn := h.n
  refine ⟨by simp [hn], fun k hk => ?_⟩
  by_cases hkl : k < H.length
  · rw [show (P ++ [y]).getD k nilV = P.getD k nilV by simp [List.getD, List.getElem?_append_left (show k < P.length by omega)], show (H ++ [p]).getD k default = H.getD k default by simp [List.getD, List.getElem?_append_left hkl]]
    exact (h.r k hkl).mono hM
  · obtain rfl : k = H.length := by simp at hk; omega
    rw [show (P ++ [y]).getD H.length nilV = y by simp [List.getD, ← hn], show (H ++ [p]).getD H.length default = p by simp [List.getD]]
    exact hy
theorem PrIn.mono {M M' : HL} {P : List Value} {H : Hs} (h : PrIn M P H) (hM : FLe M M') : PrIn M' P H := ⟨h.n, fun k hk => (h.r k hk).mono hM⟩
/-- How many of the first are no barriers. -/
def cntN (l : List Op) : Nat → Nat
  | 0 => 0
  | n + 1 => if (l.getD n default).k ≠ 4 then cntN l n + 1 else cntN l n
theorem cntN_le (l : List Op) : ∀ n, cntN l n ≤ n
  | 0 => Nat.le_refl _
  | n + 1 => by
    have := cntN_le l n
    unfold cntN
    split <;> omega
def allN (H : Hs) : Nat → Nat
  | 0 => 0
  | n + 1 => allN H n + cntN (H.getD n default).2 (H.getD n default).2.length
theorem allN_le {H : Hs} {c : Nat} (hc : ∀ p ∈ H, p.2.length ≤ c) : ∀ n, n ≤ H.length → allN H n ≤ n * c
  | 0, _ => by simp [allN]
  | n + 1, hn => by
    have h1 := allN_le hc n (by omega)
    have h2 := hc (H.getD n default) (by simp [List.getD, show n < H.length by omega])
    have h3 := cntN_le (H.getD n default).2 (H.getD n default).2.length
    unfold allN
    rw [Nat.succ_mul]
    omega
def neg1 (j : Nat) (k : Nat) : List Value := irow (if k < j then -1 else 0)
theorem neg1_set {j n : Nat} (hj : j < n) : (tblOf (neg1 j) n).set (0 + (j : Int).toNat) (over ((tblOf (neg1 j) n).getD (0 + (j : Int).toNat) []) 0 [.int .i64 (-1)]) = tblOf (neg1 (j + 1)) n := by
  rw [Nat.zero_add, Int.toNat_natCast, tblOf_get _ hj, tblOf_set _ hj]
  refine tblOf_congr fun k _ => ?_
  show (if k = j then over (neg1 j j) 0 [.int .i64 (-1)] else neg1 j k) = neg1 (j + 1) k
  by_cases h : k = j
  · subst h
    rw [if_pos rfl]
    unfold neg1
    rw [if_pos (show k < k + 1 by omega)]
    rfl
  · rw [if_neg h]
    unfold neg1
    by_cases h2 : k < j
    · rw [if_pos h2, if_pos (by omega)]
    · rw [if_neg h2, if_neg (by omega)]
theorem neg1_zero (n : Nat) : List.replicate n [Value.int .i64 0] = tblOf (neg1 0) n := by
  unfold tblOf
  apply List.ext_getElem?
  intro k
  simp only [List.getElem?_replicate, List.getElem?_map]
  by_cases hk : k < n
  · rw [if_pos hk, List.getElem?_range hk]; rfl
  · rw [if_neg hk, List.getElem?_eq_none (by simp; omega)]; rfl
theorem neg1_all (n : Nat) : tblOf (neg1 n) n = (List.replicate n (-1 : Int)).map irow := by
  unfold tblOf
  apply List.ext_getElem?
  intro k
  simp only [List.getElem?_map, List.getElem?_replicate]
  by_cases hk : k < n
  · rw [if_pos hk, List.getElem?_range hk]; simp [neg1, hk]
  · rw [if_neg hk, List.getElem?_eq_none (by simp; omega)]; rfl
theorem take_hs {H : Hs} {i : Nat} (hi : i < H.length) : H.take (i + 1) = H.take i ++ [H.getD i default] := by
  rw [← List.take_append_getElem hi]
  simp [List.getD, hi]
theorem PrIn.nil {M : HL} : PrIn M [] [] := ⟨rfl, fun h hh => absurd hh (Nat.not_lt_zero _)⟩
theorem PosIn.nil {N : HL} : PosIn N [] [] := ⟨rfl, fun h hh => absurd hh (Nat.not_lt_zero _), fun h g k hh => absurd hh (Nat.not_lt_zero _)⟩
theorem rows_push (P : List Value) (y : Value) : List.take P.length (List.drop 0 (P.map vrow)) ++ List.take 1 (List.drop 0 [[y]]) = (P ++ [y]).map vrow := by
  rw [List.drop_zero, List.take_of_length_le (by simp)]
  simp [vrow]
/-- At what place an operation stands, among the first n; -1: at none. -/
def posN (O : List Rf) : Nat → Rf → Int
  | 0, _ => -1
  | n + 1, q => if O.getD n (0, 0) = q then n else posN O n q
theorem posN_no (O : List Rf) (q : Rf) : ∀ n, (∀ j, j < n → O.getD j (0, 0) ≠ q) → posN O n q = -1
  | 0, _ => rfl
  | n + 1, h => by
    unfold posN
    rw [if_neg (h n (by omega))]
    exact posN_no O q n fun j hj => h j (by omega)
def tabT (H : Hs) (O : List Rf) (n : Nat) : List (List Int) := (List.range H.length).map fun h : Nat => (List.range (H.getD h default).2.length).map fun a : Nat => posN O n ((h : Int), (a : Int))
theorem tabT_len (H : Hs) (O : List Rf) (n : Nat) : (tabT H O n).length = H.length := by simp [tabT]
theorem tabT_get (H : Hs) (O : List Rf) (n : Nat) {h : Nat} (hh : h < H.length) : (tabT H O n).getD h [] = (List.range (H.getD h default).2.length).map fun a : Nat => posN O n ((h : Int), (a : Int)) := by
  simp [tabT, List.getD, hh]
theorem tabT_zero (H : Hs) (O : List Rf) : nowhere H = tabT H O 0 := by
  unfold nowhere tabT
  apply List.ext_getElem?
  intro h
  simp only [List.getElem?_map]
  by_cases hh : h < H.length
  · rw [List.getElem?_range hh, List.getElem?_eq_getElem hh]
    simp only [Option.map_some, List.getD, List.getElem?_eq_getElem hh, Option.getD_some]
    congr 1
    apply List.ext_getElem?
    intro k
    simp only [List.getElem?_replicate, List.getElem?_map]
    by_cases hk : k < H[h].2.length
    · rw [if_pos hk, List.getElem?_range hk]; rfl
    · rw [if_neg hk, List.getElem?_eq_none (by simp; omega)]; rfl
  · rw [List.getElem?_eq_none (by omega), List.getElem?_eq_none (by simp; omega)]; rfl
theorem tabT_next (H : Hs) (O : List Rf) (n : Nat) {h a : Nat} (hr : O.getD n (0, 0) = ((h : Int), (a : Int))) : (tabT H O n).set h (((tabT H O n).getD h []).set a (n : Int)) = tabT H O (n + 1) := by
  apply List.ext_getElem?
  intro g
  by_cases hg : g < H.length
  · by_cases hgh : h = g
    · subst hgh
      rw [List.getElem?_set_self (by rw [tabT_len]; exact hg), tabT_get H O n hg]
      have : (tabT H O (n + 1))[h]? = some ((tabT H O (n + 1)).getD h []) := by simp [List.getD, tabT_len, hg]
      rw [this, tabT_get H O (n + 1) hg]
      congr 1
      apply List.ext_getElem?
      intro k
      by_cases hk : k < (H.getD h default).2.length
      · by_cases hka : a = k
        · subst hka
          rw [List.getElem?_set_self (by simpa using hk), List.getElem?_map, List.getElem?_range hk]
          show some (n : Int) = some (posN O (n + 1) ((h : Int), (a : Int)))
          unfold posN
          rw [if_pos hr]
        · rw [List.getElem?_set_ne hka, List.getElem?_map, List.getElem?_map, List.getElem?_range hk]
          show some (posN O n ((h : Int), (k : Int))) = some (posN O (n + 1) ((h : Int), (k : Int)))
          rw [show posN O (n + 1) ((h : Int), (k : Int)) = posN O n ((h : Int), (k : Int)) by
            show (if O.getD n (0, 0) = ((h : Int), (k : Int)) then (n : Int) else posN O n ((h : Int), (k : Int))) = _
            rw [hr, if_neg (by rw [Prod.mk.injEq]; omega)]]
      · rw [List.getElem?_eq_none (by rw [List.length_set, List.length_map, List.length_range]; omega), List.getElem?_eq_none (by rw [List.length_map, List.length_range]; omega)]
    · rw [List.getElem?_set_ne hgh]
      unfold tabT
      rw [List.getElem?_map, List.getElem?_map, List.getElem?_range hg]
      show some _ = some _
      congr 1
      apply List.map_congr_left
      intro k _
      show posN O n ((g : Int), (k : Int)) = (if O.getD n (0, 0) = ((g : Int), (k : Int)) then (n : Int) else posN O n ((g : Int), (k : Int)))
      rw [hr, if_neg (by rw [Prod.mk.injEq]; omega)]
  · rw [List.getElem?_eq_none (by rw [List.length_set, tabT_len]; omega), List.getElem?_eq_none (by rw [tabT_len]; omega)]
theorem PosIn.setAt {N N' : HL} {Q : List Value} {T : List (List Int)} (h : PosIn N Q T) {g : Nat} (hg : g < T.length) {t : List Int} (h1 : ∀ b, blkOf (Q.getD g nilV) ≠ some b → N' b = N b) (h2 : OwnIn N' 3 [.int .i64] (Q.getD g nilV) (t.map irow)) : PosIn N' Q (T.set g t) := by
  refine ⟨by rw [List.length_set]; exact h.n, fun k hk => ?_, fun k j b hk hj hne hb => ?_⟩
  · rw [List.length_set] at hk
    by_cases hkg : g = k
    · subst hkg
      rw [show (T.set g t).getD g [] = t by simp [List.getD, hk]]
      exact h2
    · rw [show (T.set g t).getD k [] = T.getD k [] by simp [List.getD, List.getElem?_set_ne hkg]]
      exact (h.r k hk).keep fun b hb => h1 b fun hc => h.s k g b hk hg (fun e => hkg e.symm) hb hc
  · rw [List.length_set] at hk hj
    exact h.s k j b hk hj hne hb
/-- What is written, at a place more. -/
def addW (W : Int → List Int) (v : Nat) (x : Op) : Nat → Int → List Int
  | 0 => W
  | i + 1 => fun b => if byX x i = b then addW W v x i b ++ [(v : Int)] else addW W v x i b
def wN (H : Hs) (O : List Rf) : Nat → Int → List Int
  | 0 => fun _ => []
  | n + 1 => if wr (opAt H (O.getD n (0, 0))) = true then addW (wN H O n) n (opAt H (O.getD n (0, 0))) (opAt H (O.getD n (0, 0))).sz.toNat else wN H O n
theorem WrIn.push {N N' N2 : HL} {r : Nat} {g : Int × Int → Option Value} {W : Int → List Int} {b : Int} {y y2 : Value} {v : Int} (h : WrAt N r g W) (hy : (g (b, 0)).getD nilV = y) (k1 : ∀ k, blkOf y ≠ some k → N' k = N k) (k2 : ∀ k, blkOf y = some k → N' k = none)
    (q1 : ∀ k o, k ≠ r → N' k = some o → N2 k = some o) (q2 : OwnIn N2 3 [.int .i64] y2 ((W b ++ [v]).map irow)) (q3 : ∀ k, blkOf y2 = some k → N' k = none) (q4 : MapIn N2 r (.one .u32) (mset (.one .u32) g (b, 0) y2)) :
    WrIn N2 r fun b' => if b = b' then W b ++ [v] else W b' := by
  obtain ⟨h1, h2, h3⟩ := h
  have hr : ∃ es c, N r = some (.map es c) := by obtain ⟨es, c, l, hb, _⟩ := h1; exact ⟨es, c, hb⟩
  obtain ⟨es, c, hr⟩ := hr
  have hs : ∀ b', mset (.one .u32) g (b, 0) y2 (b', 0) = if b = b' then some y2 else g (b', 0) := fun b' => by
    unfold mset
    by_cases hb : b = b'
    · rw [if_pos hb, if_pos (by simp [KT.same, hb])]
    · rw [if_neg hb, if_neg (by simp [KT.same, hb])]
  have old : ∀ b' z, b ≠ b' → g (b', 0) = some z → OwnIn N 3 [.int .i64] z ((W b').map irow) ∧ ∀ k, blkOf z = some k → N' k = N k ∧ N2 k = N k ∧ N k ≠ none := fun b' z hne hz => by
    have ho : OwnIn N 3 [.int .i64] z ((W b').map irow) := by
      rcases h2 b' with ⟨h4, _⟩ | ⟨z', h4, h5⟩
      · rw [h4] at hz; cases hz
      · rw [h4] at hz; cases hz; exact h5
    refine ⟨ho, fun k hk => ?_⟩
    obtain ⟨cur, hc⟩ := ho.blk hk
    have hkr : k ≠ r := fun e => by subst e; rw [hr] at hc; cases hc
    have hky : blkOf y ≠ some k := fun e => by
      cases hg : g (b, 0) with
      | none => rw [hg] at hy; subst hy; cases e
      | some y' => rw [hg] at hy; obtain rfl : y' = y := hy; exact h3 b b' y' z k hne hg hz e hk
    have e1 := k1 k hky
    exact ⟨e1, by rw [hc, q1 k _ hkr (by rw [e1]; exact hc)], by rw [hc]; simp⟩
  refine ⟨_, q4, fun b' => ?_, fun b1 b2 z1 z2 k hne hz1 hz2 hk1 hk2 => ?_⟩
  · rw [hs]
    by_cases hb : b = b'
    · subst hb
      rw [if_pos rfl]
      dsimp only
      rw [if_pos rfl]
      exact .inr ⟨y2, rfl, q2⟩
    · rw [if_neg hb]
      dsimp only
      rw [if_neg hb]
      rcases h2 b' with h4 | ⟨z, h4, h5⟩
      · exact .inl h4
      · exact .inr ⟨z, h4, h5.keep fun k hk => ((old b' z hb h4).2 k hk).2.1⟩
  · rw [hs] at hz1 hz2
    by_cases e1 : b = b1
    · rw [if_pos e1] at hz1
      cases hz1
      have e2 : b ≠ b2 := fun h => hne (e1.symm.trans h)
      rw [if_neg e2] at hz2
      obtain ⟨p1, _, p3⟩ := (old b2 z2 e2 hz2).2 k hk2
      rw [q3 k hk1] at p1
      exact p3 p1.symm
    · rw [if_neg e1] at hz1
      by_cases e2 : b = b2
      · rw [if_pos e2] at hz2
        cases hz2
        obtain ⟨p1, _, p3⟩ := (old b1 z1 e1 hz1).2 k hk1
        rw [q3 k hk2] at p1
        exact p3 p1.symm
      · rw [if_neg e2] at hz2
        exact h3 b1 b2 z1 z2 k hne hz1 hz2 hk1 hk2
theorem addW_len (W : Int → List Int) (v : Nat) (x : Op) (i : Nat) (b : Int) : (addW W v x i b).length ≤ (W b).length + i := by
  induction i with
  | zero => exact Nat.le_refl _
  | succ i ih =>
    show (if byX x i = b then addW W v x i b ++ [(v : Int)] else addW W v x i b).length ≤ _
    split
    · rw [List.length_append]; simp; omega
    · omega
theorem addW_mem (W : Int → List Int) (v : Nat) (x : Op) (i : Nat) (b : Int) : ∀ w ∈ addW W v x i b, w ∈ W b ∨ w = v := by
  induction i with
  | zero => intro w hw; exact .inl hw
  | succ i ih =>
    intro w hw
    have hw : w ∈ (if byX x i = b then addW W v x i b ++ [(v : Int)] else addW W v x i b) := hw
    split at hw
    · rcases List.mem_append.1 hw with h | h
      · exact ih w h
      · exact .inr (by simpa using h)
    · exact ih w hw
theorem wN_ok (H : Hs) (O : List Rf) (hz : ∀ r ∈ O, (opAt H r).sz ≤ 4) : ∀ n, n ≤ O.length → (∀ b, ∀ w ∈ wN H O n b, 0 ≤ w ∧ w < (n : Int)) ∧ ∀ b, (wN H O n b).length ≤ 4 * n
  | 0, _ => ⟨fun b w hw => (by cases hw), fun b => Nat.le_refl _⟩
  | n + 1, hn => by
    obtain ⟨h1, h2⟩ := wN_ok H O hz n (by omega)
    have h3 := hz (O.getD n (0, 0)) (by simp [List.getD, show n < O.length by omega])
    unfold wN
    split
    · refine ⟨fun b w hw => ?_, fun b => ?_⟩
      · rcases addW_mem _ _ _ _ b w hw with h | h
        · have := h1 b w h; omega
        · omega
      · have := addW_len (wN H O n) n (opAt H (O.getD n (0, 0))) (opAt H (O.getD n (0, 0))).sz.toNat b
        have := h2 b
        omega
    · exact ⟨fun b w hw => (by have := h1 b w hw; omega), fun b => (by have := h2 b; omega)⟩
end Go.Proofs.YtkfkoldaeplckaaDoor
/-
  The checker's places, of orders that are whole, walked; its contract.
-/
namespace Go.Proofs.YtkfkoldaeplckaaDoor
open Go Go.Vc
set_option maxRecDepth 100000
set_option linter.unusedSimpArgs false
set_option linter.unusedVariables false
set_option maxHeartbeats 20000000
theorem tab_cell (f : Nat → Int) {n b : Nat} (hb : b < n) : toI (cellAt (((List.range n).map f).map irow) (b : Int).toNat 0) = f b := by
  have := toI_i (l := (List.range n).map f) (i := b) (by simpa using hb)
  rw [Nat.zero_add] at this
  rw [this]
  simp [List.getD, hb]
theorem pos_set (f : Nat → Int) {n b : Nat} (hb : b < n) {v : Int} : (((List.range n).map f).map irow).set (b : Int).toNat (over ((((List.range n).map f).map irow).getD (b : Int).toNat []) 0 [.int .i64 v]) = ((((List.range n).map f).set b v).map irow) := by
  rw [Int.toNat_natCast, List.map_set]
  congr 1
  simp [List.getD, hb, irow, over]
theorem WrAt.get {N : HL} {r : Nat} {g : Int × Int → Option Value} {W : Int → List Int} (h : WrAt N r g W) (b : Int) : ∃ y, (g (b, 0)).getD nilV = y ∧ OwnIn N 3 [.int .i64] y ((W b).map irow) := by
  obtain ⟨h1, h2, h3⟩ := h
  rcases h2 b with ⟨h4, h5⟩ | ⟨y, h4, h5⟩
  · exact ⟨nilV, by rw [h4]; rfl, by rw [h5]; exact ⟨by decide, .inl ⟨rfl, none, rfl⟩⟩⟩
  · exact ⟨y, by rw [h4]; rfl, h5⟩
theorem own_push {N : HL} {y : Value} {l : List Int} {v : Int} {n : Nat} (h : OwnIn N 3 [.int .i64] y (List.take n (List.drop 0 (l.map irow ++ List.take 1 (List.drop 0 [[Value.int .i64 v]]))))) (hn : n = l.length + 1 := by simp) : OwnIn N 3 [.int .i64] y ((l ++ [v]).map irow) := by
  rw [List.drop_zero, List.drop_zero, List.take_of_length_le (show ([[Value.int .i64 v]] : List (List Value)).length ≤ 1 by simp), List.take_of_length_le (by simp; omega)] at h
  rw [List.map_append]
  exact h
theorem addW_push {N : HL} {r : Nat} {W : Int → List Int} {v : Nat} {x : Op} {i : Nat} (h : WrIn N r fun b' => if byX x i = b' then addW W v x i (byX x i) ++ [(v : Int)] else addW W v x i b') : WrIn N r (addW W v x (i + 1)) := by
  rw [show addW W v x (i + 1) = fun b' => if byX x i = b' then addW W v x i (byX x i) ++ [(v : Int)] else addW W v x i b' from funext fun b' => by
    show (if byX x i = b' then addW W v x i b' ++ [(v : Int)] else addW W v x i b') = _
    by_cases hb : byX x i = b'
    · subst hb; rfl
    · rw [if_neg hb, if_neg hb]]
  exact h
theorem places_run (M : HL) (K : SV → List Ent → HL → Prop) (eh eo eb : TypeId) (H : Hs) (O : List Rf) (r1 r2 : Nat) (N1 N2 : HL) (bl : List Int) (hH : HIn M H) (hV : ValidH H) (hN2 : FrIn N2 r2 fun _ => none) (hN1 : WrIn N1 r1 fun _ => []) (hO : O.length ≤ 200000)
    (hr : ∀ r ∈ O, RefOK H r) (hnb : ∀ r ∈ O, (opAt H r).k ≠ 4) (hnd : ∀ i j, i < j → j < O.length → O.getD i (0, 0) ≠ O.getD j (0, 0)) (hal0 : allN H H.length ≤ O.length) (hZ : ∀ r ∈ O, 0 ≤ (opAt H r).sz ∧ (opAt H r).sz ≤ 4)
    (hK : ∀ P Q N1' N2' M', FLe M M' → PrIn M' P H → PosIn N2' Q (tabT H O O.length) → WrIn N1' r1 (wN H O O.length) → FrIn N2' r2 (fun _ => none) → K (.v .nilIface) (plh eh eo eb H O P Q r1 r2 N1' N2' bl) M') :
    runF GT1 pf35 [.ptr 0 0 0 0] (pl0 eh eo eb H O r1 r2 N1 N2 bl) M fun v hp2 M2 => ∃ m v' hp', Wk (llen (pl0 eh eo eb H O r1 r2 N1 N2 bl)) m [v] hp2 [v'] hp' (K v' hp' M2) := by
  obtain ⟨hn, ht, hc, hf⟩ := hV
  have hal := allN_le hc
  repeat ((conv => whnf); (first | refine Cnd.yes ?_ | refine Cnd.no ?_ | refine And.intro rfl ?_ | refine aom ?_ | refine Alt.std ?_ | (show Ko_ _ _ _ _; subst hKo_) | refine ctt ?_ | refine cff ?_))
  conv => whnf
  refine ⟨InvG 198 (fun s : Nat × List Value × List Value × HL => H.length - s.1) (fun (s : Nat × List Value × List Value × HL) (Mx : HL) => s.1 ≤ H.length ∧ FLe M Mx ∧ PrIn Mx s.2.1 (H.take s.1) ∧ PosIn s.2.2.2 s.2.2.1 (nowhere (H.take s.1)) ∧ FrIn s.2.2.2 r2 (fun _ => none)) (fun s : Nat × List Value × List Value × HL => [(0, .ptr 0 0 0 0), (2, .v .nilIface), (3, .v (.int .i64 (allN H s.1))), (17, .slc 1 1 0 H.length), (18, .v (.int .i64 H.length)), (19, .v (.int .i64 s.1))]) (fun s : Nat × List Value × List Value × HL => plh eh eo eb H O s.2.1 s.2.2.1 r1 r2 N1 s.2.2.2 bl), ⟨(fun s : Nat × List Value × List Value × HL => H.length - s.1) (0, [], [], N2), [0, 1, 2, 3, 4, 5, 6, 99, 99], tmk 198 0 ((fun s : Nat × List Value × List Value × HL => [(0, .ptr 0 0 0 0), (2, .v .nilIface), (3, .v (.int .i64 (allN H s.1))), (17, .slc 1 1 0 H.length), (18, .v (.int .i64 H.length)), (19, .v (.int .i64 s.1))]) (0, [], [], N2)), (fun s : Nat × List Value × List Value × HL => plh eh eo eb H O s.2.1 s.2.2.1 r1 r2 N1 s.2.2.2 bl) (0, [], [], N2), ?_⟩, ?_⟩
  · repeat ((conv => whnf); (first | refine Cnd.yes ?_ | refine Cnd.no ?_ | refine And.intro rfl ?_ | refine aom ?_ | refine Alt.std ?_ | (show Ko_ _ _ _ _; subst hKo_)))
    conv => whnf
    exact ⟨(0, [], [], N2), ⟨Nat.zero_le _, FLe.refl M, PrIn.nil, PosIn.nil, hN2⟩, rfl, (tmkK_eq _ _ _ _).mpr rfl, rfl⟩
  · rintro Ko_ hKo_ cnt tm hp M1 ⟨⟨i,P,Q,N⟩, hC_, rfl, htm, hhp_⟩
    replace hC_ : i ≤ H.length ∧ FLe M M1 ∧ PrIn M1 P (H.take i) ∧ PosIn N Q (nowhere (H.take i)) ∧ FrIn N r2 (fun _ => none) := hC_
    obtain ⟨hi,hM1,hP,hQ,hFr⟩ := hC_
    replace htm : tmkK 198 0 [(0, .ptr 0 0 0 0), (2, .v .nilIface), (3, .v (.int .i64 (allN H i))), (17, .slc 1 1 0 H.length), (18, .v (.int .i64 H.length)), (19, .v (.int .i64 i))] (fun l => tm = l) := htm
    conv at htm => whnf
    subst htm
    replace hhp_ : hp = plh eh eo eb H O P Q r1 r2 N1 N bl := hhp_
    subst hhp_
    repeat ((conv => whnf); (first | refine Cnd.yes ?_ | refine Cnd.no ?_ | refine And.intro rfl ?_ | refine aom ?_ | refine Alt.std ?_ | (show Ko_ _ _ _ _; subst hKo_) | refine ctt ?_ | refine cff ?_))
    conv => whnf
    refine Cnd.mk (fun hlt => ?_) fun hge => ?_
    · have hin : i < H.length := by have := of_decide_eq_true hlt; omega
      have hmem : H.getD i default ∈ H := by simp [List.getD, hin]
      obtain ⟨e1, hR⟩ := hH.r _ hmem
      have hyl := hR.len
      rw [List.length_map] at hyl
      have hcl := hc _ hmem
      have c0 : cellAt (H.map hrow) (0 + (i : Int).toNat) 0 = (H.getD i default).1 := by rw [Nat.zero_add, Int.toNat_natCast, hcell H hin]
      have hali := hal i hi
      have hcn := cntN_le (H.getD i default).2
      have hth := take_hs hin
      have haln : allN H (i + 1) = allN H i + cntN (H.getD i default).2 (H.getD i default).2.length := rfl
      have hPn := hP.n
      have hQn := hQ.n
      generalize hpl : H.getD i default = pl at *
      obtain ⟨y, l⟩ := pl
      dsimp only at *
      repeat ((conv => whnf); (first | refine Cnd.yes ?_ | refine Cnd.no ?_ | refine And.intro rfl ?_ | refine aom ?_ | refine Alt.std ?_ | (show Ko_ _ _ _ _; subst hKo_) | refine ctt ?_ | refine cff ?_))
      conv => whnf
      rw [c0, hyl]
      repeat ((conv => whnf); (first | refine Cnd.yes ?_ | refine Cnd.no ?_ | refine And.intro rfl ?_ | refine aom ?_ | refine Alt.std ?_ | (show Ko_ _ _ _ _; subst hKo_) | refine ctt ?_ | refine cff ?_))
      conv => whnf
      rw [hyl]
      rw [show ((l.length : Nat) : Int).toNat = l.length from Int.toNat_natCast _, neg1_zero]
      have hR1 := hR.mono hM1
      refine ⟨InvS 198 (fun s : Nat => l.length - s) (fun s : Nat => s ≤ l.length) (fun s : Nat => [(0, .ptr 0 0 0 0), (2, .v .nilIface), (3, .v (.int .i64 (allN H i + cntN l s : Nat))), (5, .rsl y), (6, .slc 9 1 0 l.length), (17, .slc 1 1 0 H.length), (18, .v (.int .i64 H.length)), (19, .v (.int .i64 i)), (26, .rsl y), (27, .v (.int .i64 l.length)), (28, .v (.int .i64 s))]) (fun s : Nat => plh eh eo eb H O P Q r1 r2 N1 N bl ++ [Ent.row true 3 [.int .i64] (tblOf (neg1 s) l.length)]) M1, ⟨(fun s : Nat => l.length - s) 0, [0, 1, 2, 3, 4, 5, 6, 7, 8, 9], tmk 198 0 ((fun s : Nat => [(0, .ptr 0 0 0 0), (2, .v .nilIface), (3, .v (.int .i64 (allN H i + cntN l s : Nat))), (5, .rsl y), (6, .slc 9 1 0 l.length), (17, .slc 1 1 0 H.length), (18, .v (.int .i64 H.length)), (19, .v (.int .i64 i)), (26, .rsl y), (27, .v (.int .i64 l.length)), (28, .v (.int .i64 s))]) 0), (fun s : Nat => plh eh eo eb H O P Q r1 r2 N1 N bl ++ [Ent.row true 3 [.int .i64] (tblOf (neg1 s) l.length)]) 0, ?_⟩, ?_⟩
      · repeat ((conv => whnf); (first | refine Cnd.yes ?_ | refine Cnd.no ?_ | refine And.intro rfl ?_ | refine aom ?_ | refine Alt.std ?_ | (show Ko_ _ _ _ _; subst hKo_)))
        conv => whnf
        exact ⟨0, Nat.zero_le _, rfl, rfl, (tmkK_eq _ _ _ _).mpr rfl, rfl⟩
      · rintro Ko_ hKo_ cnt tm hp M1 ⟨j, hC_, rfl, rfl, htm, hhp_⟩
        replace hC_ : j ≤ l.length := hC_
        have hj := hC_
        replace htm : tmkK 198 0 [(0, .ptr 0 0 0 0), (2, .v .nilIface), (3, .v (.int .i64 (allN H i + cntN l j : Nat))), (5, .rsl y), (6, .slc 9 1 0 l.length), (17, .slc 1 1 0 H.length), (18, .v (.int .i64 H.length)), (19, .v (.int .i64 i)), (26, .rsl y), (27, .v (.int .i64 l.length)), (28, .v (.int .i64 j))] (fun l => tm = l) := htm
        conv at htm => whnf
        subst htm
        replace hhp_ : hp = plh eh eo eb H O P Q r1 r2 N1 N bl ++ [Ent.row true 3 [.int .i64] (tblOf (neg1 j) l.length)] := hhp_
        subst hhp_
        have htl := tblOf_len (neg1 j) l.length
        repeat ((conv => whnf); (first | refine Cnd.yes ?_ | refine Cnd.no ?_ | refine And.intro rfl ?_ | refine aom ?_ | refine Alt.std ?_ | (show Ko_ _ _ _ _; subst hKo_) | refine ctt ?_ | refine cff ?_))
        conv => whnf
        refine Cnd.mk (fun hlt2 => ?_) fun hge2 => ?_
        · have hjn : j < l.length := by have := of_decide_eq_true hlt2; omega
          have hcj := hcn j
          have hcs : cntN l (j + 1) = if (l.getD j default).k ≠ 4 then cntN l j + 1 else cntN l j := rfl
          have hns := neg1_set hjn
          repeat ((conv => whnf); (first | refine Cnd.yes ?_ | refine Cnd.no ?_ | refine And.intro rfl ?_ | refine aom ?_ | refine Alt.std ?_ | (show Ko_ _ _ _ _; subst hKo_) | refine ctt ?_ | refine cff ?_))
          conv => whnf
          refine ⟨e1, ock, l.map orow, .inr (.inr hR1), ?_⟩
          repeat ((conv => whnf); (first | refine Cnd.yes ?_ | refine Cnd.no ?_ | refine And.intro rfl ?_ | refine aom ?_ | refine Alt.std ?_ | (show Ko_ _ _ _ _; subst hKo_) | refine ctt ?_ | refine cff ?_))
          conv => whnf
          obtain ⟨x, hx⟩ : ∃ x, l.getD j default = x := ⟨_, rfl⟩
          have c0 : toI (cellAt (List.map orow l) (j : Int).toNat 0) = Op.k x := by rw [ocell l (show (j : Int).toNat < l.length by omega), (show l.getD (j : Int).toNat default = x by rw [Int.toNat_natCast]; exact hx)]; rfl
          have c1 : toI (cellAt (List.map orow l) (j : Int).toNat (0 + 1)) = Op.sz x := by rw [ocell l (show (j : Int).toNat < l.length by omega), (show l.getD (j : Int).toNat default = x by rw [Int.toNat_natCast]; exact hx)]; rfl
          have c2 : toI (cellAt (List.map orow l) (j : Int).toNat (0 + 1 + 1)) = Op.ad x := by rw [ocell l (show (j : Int).toNat < l.length by omega), (show l.getD (j : Int).toNat default = x by rw [Int.toNat_natCast]; exact hx)]; rfl
          have c3 : toI (cellAt (List.map orow l) (j : Int).toNat (0 + 1 + 1 + 1)) = Op.v x := by rw [ocell l (show (j : Int).toNat < l.length by omega), (show l.getD (j : Int).toNat default = x by rw [Int.toNat_natCast]; exact hx)]; rfl
          have c4 : toI (cellAt (List.map orow l) (j : Int).toNat (0 + 1 + 1 + 1 + 1)) = Op.g x := by rw [ocell l (show (j : Int).toNat < l.length by omega), (show l.getD (j : Int).toNat default = x by rw [Int.toNat_natCast]; exact hx)]; rfl
          have c5 : toB (cellAt (List.map orow l) (j : Int).toNat (0 + 1 + 1 + 1 + 1 + 1)) = Op.pr x := by rw [ocell l (show (j : Int).toNat < l.length by omega), (show l.getD (j : Int).toNat default = x by rw [Int.toNat_natCast]; exact hx)]; rfl
          have c6 : toB (cellAt (List.map orow l) (j : Int).toNat (0 + 1 + 1 + 1 + 1 + 1 + 1)) = Op.aq x := by rw [ocell l (show (j : Int).toNat < l.length by omega), (show l.getD (j : Int).toNat default = x by rw [Int.toNat_natCast]; exact hx)]; rfl
          have c7 : toB (cellAt (List.map orow l) (j : Int).toNat (0 + 1 + 1 + 1 + 1 + 1 + 1 + 1)) = Op.rl x := by rw [ocell l (show (j : Int).toNat < l.length by omega), (show l.getD (j : Int).toNat default = x by rw [Int.toNat_natCast]; exact hx)]; rfl
          have c8 : toI (cellAt (List.map orow l) (j : Int).toNat (0 + 1 + 1 + 1 + 1 + 1 + 1 + 1 + 1)) = Op.pd x := by rw [ocell l (show (j : Int).toNat < l.length by omega), (show l.getD (j : Int).toNat default = x by rw [Int.toNat_natCast]; exact hx)]; rfl
          have c9 : toI (cellAt (List.map orow l) (j : Int).toNat (0 + 1 + 1 + 1 + 1 + 1 + 1 + 1 + 1 + 1)) = Op.sc x := by rw [ocell l (show (j : Int).toNat < l.length by omega), (show l.getD (j : Int).toNat default = x by rw [Int.toNat_natCast]; exact hx)]; rfl
          have c10 : cellAt (List.map orow l) (j : Int).toNat (0 + 1 + 1 + 1 + 1 + 1 + 1 + 1 + 1 + 1 + 1) = Op.ya x := by rw [ocell l (show (j : Int).toNat < l.length by omega), (show l.getD (j : Int).toNat default = x by rw [Int.toNat_natCast]; exact hx)]; rfl
          have c11 : cellAt (List.map orow l) (j : Int).toNat (0 + 1 + 1 + 1 + 1 + 1 + 1 + 1 + 1 + 1 + 1 + 1) = Op.yd x := by rw [ocell l (show (j : Int).toNat < l.length by omega), (show l.getD (j : Int).toNat default = x by rw [Int.toNat_natCast]; exact hx)]; rfl
          have c12 : cellAt (List.map orow l) (j : Int).toNat (0 + 1 + 1 + 1 + 1 + 1 + 1 + 1 + 1 + 1 + 1 + 1 + 1) = Op.yc x := by rw [ocell l (show (j : Int).toNat < l.length by omega), (show l.getD (j : Int).toNat default = x by rw [Int.toNat_natCast]; exact hx)]; rfl
          rw [c0, c1, c2, c3, c4, c5, c6, c7, c8, c9, c10, c11, c12]
          clear c0 c1 c2 c3 c4 c5 c6 c7 c8 c9 c10 c11 c12
          repeat ((conv => whnf); (first | refine Cnd.yes ?_ | refine Cnd.no ?_ | refine And.intro rfl ?_ | refine aom ?_ | refine Alt.std ?_ | (show Ko_ _ _ _ _; subst hKo_) | refine ctt ?_ | refine cff ?_))
          conv => whnf
          rw [hns]
          rw [hx] at hcs
          by_cases hk : x.k = 4
          · rw [if_neg (fun h => h hk)] at hcs
            repeat ((conv => whnf); (first | refine Cnd.yes ?_ | refine Cnd.no ?_ | refine And.intro rfl ?_ | refine aom ?_ | refine Alt.std ?_ | (show Ko_ _ _ _ _; subst hKo_) | refine ctt ?_ | refine cff ?_))
            conv => whnf
            (refine ⟨(fun s : Nat => l.length - s) (j + 1), [0, 1, 2, 3, 4, 5, 6, 7, 8, 9], tmk 198 0 ((fun s : Nat => [(0, .ptr 0 0 0 0), (2, .v .nilIface), (3, .v (.int .i64 (allN H i + cntN l s : Nat))), (5, .rsl y), (6, .slc 9 1 0 l.length), (17, .slc 1 1 0 H.length), (18, .v (.int .i64 H.length)), (19, .v (.int .i64 i)), (26, .rsl y), (27, .v (.int .i64 l.length)), (28, .v (.int .i64 s))]) (j + 1)), (fun s : Nat => plh eh eo eb H O P Q r1 r2 N1 N bl ++ [Ent.row true 3 [.int .i64] (tblOf (neg1 s) l.length)]) (j + 1), ?_, ?_⟩; focus (first | (simp only []; omega) | omega))
            repeat ((conv => whnf); (first | refine Cnd.yes ?_ | refine Cnd.no ?_ | refine And.intro rfl ?_ | refine aom ?_ | refine Alt.std ?_ | (show Ko_ _ _ _ _; subst hKo_)))
            conv => whnf
            exact ⟨j + 1, hjn, rfl, rfl, (tmkK_eq _ _ _ _).mpr rfl, rfl⟩
          · rw [if_pos hk] at hcs
            repeat ((conv => whnf); (first | refine Cnd.yes ?_ | refine Cnd.no ?_ | refine And.intro rfl ?_ | refine aom ?_ | refine Alt.std ?_ | (show Ko_ _ _ _ _; subst hKo_) | refine ctt ?_ | refine cff ?_))
            conv => whnf
            (refine ⟨(fun s : Nat => l.length - s) (j + 1), [0, 1, 2, 3, 4, 5, 6, 7, 8, 9], tmk 198 0 ((fun s : Nat => [(0, .ptr 0 0 0 0), (2, .v .nilIface), (3, .v (.int .i64 (allN H i + cntN l s : Nat))), (5, .rsl y), (6, .slc 9 1 0 l.length), (17, .slc 1 1 0 H.length), (18, .v (.int .i64 H.length)), (19, .v (.int .i64 i)), (26, .rsl y), (27, .v (.int .i64 l.length)), (28, .v (.int .i64 s))]) (j + 1)), (fun s : Nat => plh eh eo eb H O P Q r1 r2 N1 N bl ++ [Ent.row true 3 [.int .i64] (tblOf (neg1 s) l.length)]) (j + 1), ?_, ?_⟩; focus (first | (simp only []; omega) | omega))
            repeat ((conv => whnf); (first | refine Cnd.yes ?_ | refine Cnd.no ?_ | refine And.intro rfl ?_ | refine aom ?_ | refine Alt.std ?_ | (show Ko_ _ _ _ _; subst hKo_)))
            conv => whnf
            exact ⟨j + 1, hjn, rfl, rfl, (tmkK_eq _ _ _ _).mpr rfl, rfl⟩
        · obtain rfl : j = l.length := by have := of_decide_eq_false hge2; omega
          rw [neg1_all] at htl ⊢
          have hrl : ((List.replicate l.length (-1 : Int)).map irow).length = l.length := by simp
          repeat ((conv => whnf); (first | refine Cnd.yes ?_ | refine Cnd.no ?_ | refine And.intro rfl ?_ | refine aom ?_ | (show Ko_ _ _ _ _; subst hKo_) | refine ctt ?_ | refine cff ?_))
          conv => whnf
          refine Alt.exact ⟨4, N, rfl, by omega, fun y2 N' hN hO2 hf2 => ?_⟩
          have hO3 : OwnIn N' 3 [.int .i64] y2 ((List.replicate l.length (-1 : Int)).map irow) := by
            rwa [List.drop_zero, List.take_of_length_le (by omega)] at hO2
          have hQ2 := hQ.push hN hO3 hf2
          have hFr2 : FrIn N' r2 fun _ => none := hFr.keep (by obtain ⟨es, c, l, hb, _⟩ := hFr; rw [hb]; exact hN _ _ hb)
          have hQi : Q.length = i := by rw [hQn]; simp [nowhere]; omega
          have hPi : P.length = i := by rw [hPn]; simp; omega
          have hpln : (pairsL l).length = l.length := by simp [pairsL]
          repeat ((conv => whnf); (first | refine Cnd.yes ?_ | refine Cnd.no ?_ | refine And.intro rfl ?_ | refine aom ?_ | refine Alt.std ?_ | (show Ko_ _ _ _ _; subst hKo_) | refine ctt ?_ | refine cff ?_))
          conv => whnf
          intro Mr hMr
          repeat ((conv => whnf); (first | refine Cnd.yes ?_ | refine Cnd.no ?_ | refine And.intro rfl ?_ | refine aom ?_ | refine Alt.std ?_ | (show Ko_ _ _ _ _; subst hKo_) | refine ctt ?_ | refine cff ?_))
          conv => whnf
          refine ⟨y, e1, ock, l.map orow, rfl, hR1.mono hMr, ?_⟩
          repeat ((conv => whnf); (first | refine Cnd.yes ?_ | refine Cnd.no ?_ | refine And.intro rfl ?_ | refine aom ?_ | refine Alt.std ?_ | (show Ko_ _ _ _ _; subst hKo_) | refine ctt ?_ | refine cff ?_))
          conv => whnf
          refine ⟨false, e1, l, by rw [List.length_map]; rfl, rfl, hcl, ?_⟩
          rw [hpln]
          repeat ((conv => whnf); (first | refine Cnd.yes ?_ | refine Cnd.no ?_ | refine And.intro rfl ?_ | refine aom ?_ | refine Alt.std ?_ | (show Ko_ _ _ _ _; subst hKo_) | refine ctt ?_ | refine cff ?_))
          conv => whnf
          intro y3 M2 hM2 hR3
          have hR4 : Vc.RowsIn M2 3 [.int .i64] y3 ((pairsL l).map irow) := by
            rwa [List.drop_zero, List.take_of_length_le (by simp [hpln])] at hR3
          have hP2 := hP.push (p := (y, l)) hM2 hR4
          have hPr : ((P ++ [y3]).length) = P.length + 1 := by simp
          have hQr : ((Q ++ [y2]).length) = Q.length + 1 := by simp
          repeat ((conv => whnf); (first | refine Cnd.yes ?_ | refine Cnd.no ?_ | refine And.intro rfl ?_ | refine aom ?_ | refine Alt.std ?_ | (show Ko_ _ _ _ _; subst hKo_) | refine ctt ?_ | refine cff ?_))
          conv => whnf
          (refine ⟨(fun s : Nat × List Value × List Value × HL => H.length - s.1) ((i + 1, P ++ [y3], Q ++ [y2], N')), [0, 1, 2, 3, 4, 5, 6, 15, 11], tmk 198 0 ((fun s : Nat × List Value × List Value × HL => [(0, .ptr 0 0 0 0), (2, .v .nilIface), (3, .v (.int .i64 (allN H s.1))), (17, .slc 1 1 0 H.length), (18, .v (.int .i64 H.length)), (19, .v (.int .i64 s.1))]) ((i + 1, P ++ [y3], Q ++ [y2], N'))), (fun s : Nat × List Value × List Value × HL => plh eh eo eb H O s.2.1 s.2.2.1 r1 r2 N1 s.2.2.2 bl) ((i + 1, P ++ [y3], Q ++ [y2], N')), ?_, ?_⟩; focus (first | (simp only []; omega) | omega))
          repeat ((conv => whnf); (first | refine Cnd.yes ?_ | refine Cnd.no ?_ | refine And.intro rfl ?_ | refine aom ?_ | refine Alt.std ?_ | (show Ko_ _ _ _ _; subst hKo_)))
          conv => whnf
          refine ⟨rows_push P y3, ?_⟩
          repeat ((conv => whnf); (first | refine Cnd.yes ?_ | refine Cnd.no ?_ | refine And.intro rfl ?_ | refine aom ?_ | refine Alt.std ?_ | (show Ko_ _ _ _ _; subst hKo_)))
          conv => whnf
          refine ⟨rows_push Q y2, ?_⟩
          repeat ((conv => whnf); (first | refine Cnd.yes ?_ | refine Cnd.no ?_ | refine And.intro rfl ?_ | refine aom ?_ | refine Alt.std ?_ | (show Ko_ _ _ _ _; subst hKo_)))
          conv => whnf
          exact ⟨(i + 1, P ++ [y3], Q ++ [y2], N'), ⟨hin, hM1.trans hM2, by rw [hth]; exact hP2, by rw [hth]; unfold nowhere at hQ2 ⊢; rw [List.map_append]; exact hQ2, hFr2⟩, rfl, (tmkK_eq _ _ _ _).mpr rfl, rfl⟩
    · obtain rfl : i = H.length := by have := of_decide_eq_false hge; omega
      rw [List.take_length] at hP hQ
      rw [tabT_zero H O] at hQ
      have hH1 := hH.mono hM1
      have hPn := hP.n
      have hQn : Q.length = H.length := by rw [hQ.n, tabT_len]
      repeat ((conv => whnf); (first | refine Cnd.yes ?_ | refine Cnd.no ?_ | refine And.intro rfl ?_ | refine aom ?_ | refine Alt.std ?_ | (show Ko_ _ _ _ _; subst hKo_) | refine ctt ?_ | refine cff ?_))
      conv => whnf
      refine ⟨InvS 198 (fun s : (Nat × HL × HL) => O.length - s.1) (fun s : (Nat × HL × HL) => s.1 ≤ O.length ∧ WrIn s.2.1 r1 (wN H O s.1) ∧ PosIn s.2.2 Q (tabT H O s.1) ∧ FrIn s.2.2 r2 (fun _ => none)) (fun s : (Nat × HL × HL) => [(0, .ptr 0 0 0 0), (2, .v .nilIface), (3, .v (.int .i64 (allN H H.length))), (67, .slc 2 2 0 O.length), (68, .v (.int .i64 O.length)), (69, .v (.int .i64 s.1))]) (fun s : (Nat × HL × HL) => plh eh eo eb H O P Q r1 r2 s.2.1 s.2.2 bl) M1, ⟨(fun s : (Nat × HL × HL) => O.length - s.1) (0, N1, N), [0, 1, 2, 3, 4, 5, 6, 7, 8], tmk 198 0 ((fun s : (Nat × HL × HL) => [(0, .ptr 0 0 0 0), (2, .v .nilIface), (3, .v (.int .i64 (allN H H.length))), (67, .slc 2 2 0 O.length), (68, .v (.int .i64 O.length)), (69, .v (.int .i64 s.1))]) (0, N1, N)), (fun s : (Nat × HL × HL) => plh eh eo eb H O P Q r1 r2 s.2.1 s.2.2 bl) (0, N1, N), ?_⟩, ?_⟩
      · repeat ((conv => whnf); (first | refine Cnd.yes ?_ | refine Cnd.no ?_ | refine And.intro rfl ?_ | refine aom ?_ | refine Alt.std ?_ | (show Ko_ _ _ _ _; subst hKo_)))
        conv => whnf
        exact ⟨(0, N1, N), ⟨Nat.zero_le _, hN1, hQ, hFr⟩, rfl, rfl, (tmkK_eq _ _ _ _).mpr rfl, rfl⟩
      · rintro Ko_ hKo_ cnt tm hp M1 ⟨⟨p,A,B⟩, hC_, rfl, rfl, htm, hhp_⟩
        replace hC_ : p ≤ O.length ∧ WrIn A r1 (wN H O p) ∧ PosIn B Q (tabT H O p) ∧ FrIn B r2 (fun _ => none) := hC_
        obtain ⟨hpp,hW,hQ1,hFr1⟩ := hC_
        replace htm : tmkK 198 0 [(0, .ptr 0 0 0 0), (2, .v .nilIface), (3, .v (.int .i64 (allN H H.length))), (67, .slc 2 2 0 O.length), (68, .v (.int .i64 O.length)), (69, .v (.int .i64 p))] (fun l => tm = l) := htm
        conv at htm => whnf
        subst htm
        replace hhp_ : hp = plh eh eo eb H O P Q r1 r2 A B bl := hhp_
        subst hhp_
        repeat ((conv => whnf); (first | refine Cnd.yes ?_ | refine Cnd.no ?_ | refine And.intro rfl ?_ | refine aom ?_ | refine Alt.std ?_ | (show Ko_ _ _ _ _; subst hKo_) | refine ctt ?_ | refine cff ?_))
        conv => whnf
        refine Cnd.mk (fun hlt => ?_) fun hge => ?_
        · have hpn : p < O.length := by have := of_decide_eq_true hlt; omega
          have e0 : toI (cellAt (O.map rrow) (0 + (p : Int).toNat) 0) = (O.getD p (0, 0)).1 := by rw [Nat.zero_add, Int.toNat_natCast]; exact rcell0 O hpn
          have e1 : toI (cellAt (O.map rrow) (0 + (p : Int).toNat) (0 + 1)) = (O.getD p (0, 0)).2 := by rw [Nat.zero_add, Int.toNat_natCast]; exact rcell1 O hpn
          have hmo : O.getD p (0, 0) ∈ O := by simp [List.getD, hpn]
          have hro := hr _ hmo
          have hro' := hro
          have hnbo := hnb _ hmo
          have hzo := hZ _ hmo
          have hpos : posN O p (O.getD p (0, 0)) = -1 := posN_no O _ p fun j hj => hnd j p hj hpn
          have hwn : wN H O (p + 1) = if wr (opAt H (O.getD p (0, 0))) = true then addW (wN H O p) p (opAt H (O.getD p (0, 0))) (opAt H (O.getD p (0, 0))).sz.toNat else wN H O p := rfl
          have hwl := (wN_ok H O (fun r hr => (hZ r hr).2) p hpp).2
          obtain ⟨h0, h1, h2, h3⟩ := hro'
          obtain ⟨h, hh⟩ : ∃ h : Nat, (O.getD p (0, 0)).1 = h := ⟨(O.getD p (0, 0)).1.toNat, by omega⟩
          obtain ⟨b, hb⟩ : ∃ b : Nat, (O.getD p (0, 0)).2 = b := ⟨(O.getD p (0, 0)).2.toNat, by omega⟩
          have hrr : O.getD p (0, 0) = ((h : Int), (b : Int)) := Prod.ext hh hb
          have htn := tabT_next H O p hrr
          rw [hh] at h0 h1 h3 e0
          rw [hb] at h2 h3 e1
          rw [Int.toNat_natCast] at h3
          have hin : h < H.length := by omega
          have hmem : H.getD h default ∈ H := by simp [List.getD, hin]
          obtain ⟨e1', hR⟩ := hH1.r _ hmem
          have hyl := hR.len
          rw [List.length_map] at hyl
          have c0 : cellAt (H.map hrow) (0 + (h : Int).toNat) 0 = (H.getD h default).1 := by rw [Nat.zero_add, Int.toNat_natCast, hcell H hin]
          have c1 : cellAt (Q.map vrow) (0 + (h : Int).toNat) 0 = Q.getD h nilV := by rw [Nat.zero_add, Int.toNat_natCast, vcell Q (by omega)]
          have hQr := (hQ1.r h (by rw [tabT_len]; exact hin))
          rw [tabT_get H O p hin] at hQr htn
          obtain ⟨x, hx⟩ : ∃ x, opAt H (O.getD p (0, 0)) = x := ⟨_, rfl⟩
          have hx0 : (H.getD h default).2.getD b default = x := by rw [← hx, hrr]; rfl
          rw [hx] at hnbo hzo hwn
          have hbl : b < (H.getD h default).2.length := by omega
          have hql := hQr.rows.len
          rw [List.length_map, List.length_map, List.length_range] at hql
          have hpc := tab_cell (fun a : Nat => posN O p ((h : Int), (a : Int))) hbl
          rw [← hrr, hpos] at hpc
          repeat ((conv => whnf); (first | refine Cnd.yes ?_ | refine Cnd.no ?_ | refine And.intro rfl ?_ | refine aom ?_ | refine Alt.std ?_ | (show Ko_ _ _ _ _; subst hKo_) | refine ctt ?_ | refine cff ?_))
          conv => whnf
          rw [e0, e1]
          repeat ((conv => whnf); (first | refine Cnd.yes ?_ | refine Cnd.no ?_ | refine And.intro rfl ?_ | refine aom ?_ | refine Alt.std ?_ | (show Ko_ _ _ _ _; subst hKo_) | refine ctt ?_ | refine cff ?_))
          conv => whnf
          rw [c0, hyl]
          repeat ((conv => whnf); (first | refine Cnd.yes ?_ | refine Cnd.no ?_ | refine And.intro rfl ?_ | refine aom ?_ | refine Alt.std ?_ | (show Ko_ _ _ _ _; subst hKo_) | refine ctt ?_ | refine cff ?_))
          conv => whnf
          rw [c0, hyl]
          repeat ((conv => whnf); (first | refine Cnd.yes ?_ | refine Cnd.no ?_ | refine And.intro rfl ?_ | refine aom ?_ | refine Alt.std ?_ | (show Ko_ _ _ _ _; subst hKo_) | refine ctt ?_ | refine cff ?_))
          conv => whnf
          refine ⟨e1', ock, (H.getD h default).2.map orow, .inr (.inr hR), ?_⟩
          repeat ((conv => whnf); (first | refine Cnd.yes ?_ | refine Cnd.no ?_ | refine And.intro rfl ?_ | refine aom ?_ | refine Alt.std ?_ | (show Ko_ _ _ _ _; subst hKo_) | refine ctt ?_ | refine cff ?_))
          conv => whnf
          have hk0 : toI (cellAt ((H.getD h default).2.map orow) (b : Int).toNat (0 + 0)) = x.k := by rw [Int.toNat_natCast, ocell _ hbl, hx0]; rfl
          rw [hk0]
          repeat ((conv => whnf); (first | refine Cnd.yes ?_ | refine Cnd.no ?_ | refine And.intro rfl ?_ | refine aom ?_ | refine Alt.std ?_ | (show Ko_ _ _ _ _; subst hKo_) | refine ctt ?_ | refine cff ?_))
          conv => whnf
          rw [c1, hql]
          repeat ((conv => whnf); (first | refine Cnd.yes ?_ | refine Cnd.no ?_ | refine And.intro rfl ?_ | refine aom ?_ | refine Alt.std ?_ | (show Ko_ _ _ _ _; subst hKo_) | refine ctt ?_ | refine cff ?_))
          conv => whnf
          refine ⟨3, [.int .i64], ((List.range (H.getD h default).2.length).map fun a : Nat => posN O p ((h : Int), (a : Int))).map irow, .inr (.inl hQr.rows), ?_⟩
          have hrl : (((List.range (H.getD h default).2.length).map fun a : Nat => posN O p ((h : Int), (a : Int))).map irow).length = (H.getD h default).2.length := by simp
          refine ⟨by rw [hrl]; omega, ?_⟩
          repeat ((conv => whnf); (first | refine Cnd.yes ?_ | refine Cnd.no ?_ | refine And.intro rfl ?_ | refine aom ?_ | refine Alt.std ?_ | (show Ko_ _ _ _ _; subst hKo_) | refine ctt ?_ | refine cff ?_))
          conv => whnf
          rw [hpc]
          repeat ((conv => whnf); (first | refine Cnd.yes ?_ | refine Cnd.no ?_ | refine And.intro rfl ?_ | refine aom ?_ | refine Alt.std ?_ | (show Ko_ _ _ _ _; subst hKo_) | refine ctt ?_ | refine cff ?_))
          conv => whnf
          rw [c1, hql]
          repeat ((conv => whnf); (first | refine Cnd.yes ?_ | refine Cnd.no ?_ | refine And.intro rfl ?_ | refine aom ?_ | refine Alt.std ?_ | (show Ko_ _ _ _ _; subst hKo_) | refine ctt ?_ | refine cff ?_))
          conv => whnf
          refine ⟨4, B, 3, [.int .i64], ((List.range (H.getD h default).2.length).map fun a : Nat => posN O p ((h : Int), (a : Int))).map irow, rfl, hQr.rows, by rw [hrl]; omega, ?_⟩
          repeat ((conv => whnf); (first | refine Cnd.yes ?_ | refine Cnd.no ?_ | refine And.intro rfl ?_ | refine aom ?_ | refine Alt.std ?_ | (show Ko_ _ _ _ _; subst hKo_) | refine ctt ?_ | refine cff ?_))
          conv => whnf
          intro B2 k1 k2 k3
          have k4 := k3 hQr
          rw [pos_set _ hbl] at k4
          have hQ2 := hQ1.setAt (g := h) (by rw [tabT_len]; exact hin) k1 k4
          rw [htn] at hQ2
          have hFr2 : FrIn B2 r2 fun _ => none := hFr1.keep (k1 r2 fun hb => by obtain ⟨cur, hc⟩ := hQr.blk hb; obtain ⟨es, c, l, hb2, _⟩ := hFr1; rw [hb2] at hc; cases hc)
          repeat ((conv => whnf); (first | refine Cnd.yes ?_ | refine Cnd.no ?_ | refine And.intro rfl ?_ | refine aom ?_ | refine Alt.std ?_ | (show Ko_ _ _ _ _; subst hKo_) | refine ctt ?_ | refine cff ?_))
          conv => whnf
          refine ⟨true, eh, eo, eb, H, O, P, Q, r1, r2, A, B2, bl, p, rfl, rfl, hH1, hpn, hro, ?_⟩
          rw [hx]
          repeat ((conv => whnf); (first | refine Cnd.yes ?_ | refine Cnd.no ?_ | refine And.intro rfl ?_ | refine aom ?_ | refine Alt.std ?_ | (show Ko_ _ _ _ _; subst hKo_) | refine ctt ?_ | refine cff ?_))
          conv => whnf
          refine ⟨x, rfl, rfl, ?_⟩
          cases hwx : wr x with
          | false =>
            rw [hwx, if_neg (by simp)] at hwn
            repeat ((conv => whnf); (first | refine Cnd.yes ?_ | refine Cnd.no ?_ | refine And.intro rfl ?_ | refine aom ?_ | refine Alt.std ?_ | (show Ko_ _ _ _ _; subst hKo_) | refine ctt ?_ | refine cff ?_))
            conv => whnf
            (refine ⟨(fun s : (Nat × HL × HL) => O.length - s.1) ((p + 1, A, B2)), [0, 1, 2, 3, 4, 5, 6, 7, 8], tmk 198 0 ((fun s : (Nat × HL × HL) => [(0, .ptr 0 0 0 0), (2, .v .nilIface), (3, .v (.int .i64 (allN H H.length))), (67, .slc 2 2 0 O.length), (68, .v (.int .i64 O.length)), (69, .v (.int .i64 s.1))]) ((p + 1, A, B2))), (fun s : (Nat × HL × HL) => plh eh eo eb H O P Q r1 r2 s.2.1 s.2.2 bl) ((p + 1, A, B2)), ?_, ?_⟩; focus (first | (simp only []; omega) | omega))
            repeat ((conv => whnf); (first | refine Cnd.yes ?_ | refine Cnd.no ?_ | refine And.intro rfl ?_ | refine aom ?_ | refine Alt.std ?_ | (show Ko_ _ _ _ _; subst hKo_)))
            conv => whnf
            exact ⟨(p + 1, A, B2), ⟨hpn, by rw [hwn]; exact hW, hQ2, hFr2⟩, rfl, rfl, (tmkK_eq _ _ _ _).mpr rfl, rfl⟩
          | true =>
            rw [hwx, if_pos rfl] at hwn
            repeat ((conv => whnf); (first | refine Cnd.yes ?_ | refine Cnd.no ?_ | refine And.intro rfl ?_ | refine aom ?_ | refine Alt.std ?_ | (show Ko_ _ _ _ _; subst hKo_) | refine ctt ?_ | refine cff ?_))
            conv => whnf
            refine ⟨x, rfl, rfl, by omega, ?_⟩
            obtain ⟨z, hzz⟩ : ∃ z : Nat, x.sz = z := ⟨x.sz.toNat, by omega⟩
            have hzt : x.sz.toNat = z := by omega
            have hz4 : z ≤ 4 := by omega
            rw [hzt] at hwn ⊢
            repeat ((conv => whnf); (first | refine Cnd.yes ?_ | refine Cnd.no ?_ | refine And.intro rfl ?_ | refine aom ?_ | refine Alt.std ?_ | (show Ko_ _ _ _ _; subst hKo_) | refine ctt ?_ | refine cff ?_))
            conv => whnf
            refine ⟨InvS 198 (fun s : (Nat × HL) => z - s.1) (fun s : (Nat × HL) => s.1 ≤ z ∧ WrIn s.2 r1 (addW (wN H O p) p x s.1)) (fun s : (Nat × HL) => [(0, .ptr 0 0 0 0), (2, .v .nilIface), (3, .v (.int .i64 (allN H H.length))), (9, .v (.int .i64 p)), (67, .slc 2 2 0 O.length), (68, .v (.int .i64 O.length)), (69, .v (.int .i64 p)), (160, .slc 9 1 0 z), (161, .v (.int .i64 z)), (162, .v (.int .i64 s.1))]) (fun s : (Nat × HL) => plh eh eo eb H O P Q r1 r2 s.2 B2 bl ++ [Ent.row true 36 [.int .u32] ((byL x z).map urow)]) M1, ⟨(fun s : (Nat × HL) => z - s.1) (0, A), [0, 1, 2, 3, 4, 5, 6, 7, 8, 11], tmk 198 0 ((fun s : (Nat × HL) => [(0, .ptr 0 0 0 0), (2, .v .nilIface), (3, .v (.int .i64 (allN H H.length))), (9, .v (.int .i64 p)), (67, .slc 2 2 0 O.length), (68, .v (.int .i64 O.length)), (69, .v (.int .i64 p)), (160, .slc 9 1 0 z), (161, .v (.int .i64 z)), (162, .v (.int .i64 s.1))]) (0, A)), (fun s : (Nat × HL) => plh eh eo eb H O P Q r1 r2 s.2 B2 bl ++ [Ent.row true 36 [.int .u32] ((byL x z).map urow)]) (0, A), ?_⟩, ?_⟩
            · repeat ((conv => whnf); (first | refine Cnd.yes ?_ | refine Cnd.no ?_ | refine And.intro rfl ?_ | refine aom ?_ | refine Alt.std ?_ | (show Ko_ _ _ _ _; subst hKo_)))
              conv => whnf
              exact ⟨(0, A), ⟨Nat.zero_le _, hW⟩, rfl, rfl, (tmkK_eq _ _ _ _).mpr rfl, rfl⟩
            · rintro Ko_ hKo_ cnt tm hp M1 ⟨⟨i,A1⟩, hC_, rfl, rfl, htm, hhp_⟩
              replace hC_ : i ≤ z ∧ WrIn A1 r1 (addW (wN H O p) p x i) := hC_
              obtain ⟨hi2,hW1⟩ := hC_
              replace htm : tmkK 198 0 [(0, .ptr 0 0 0 0), (2, .v .nilIface), (3, .v (.int .i64 (allN H H.length))), (9, .v (.int .i64 p)), (67, .slc 2 2 0 O.length), (68, .v (.int .i64 O.length)), (69, .v (.int .i64 p)), (160, .slc 9 1 0 z), (161, .v (.int .i64 z)), (162, .v (.int .i64 i))] (fun l => tm = l) := htm
              conv at htm => whnf
              subst htm
              replace hhp_ : hp = plh eh eo eb H O P Q r1 r2 A1 B2 bl ++ [Ent.row true 36 [.int .u32] ((byL x z).map urow)] := hhp_
              subst hhp_
              repeat ((conv => whnf); (first | refine Cnd.yes ?_ | refine Cnd.no ?_ | refine And.intro rfl ?_ | refine aom ?_ | refine Alt.std ?_ | (show Ko_ _ _ _ _; subst hKo_) | refine ctt ?_ | refine cff ?_))
              conv => whnf
              refine Cnd.mk (fun hlt2 => ?_) fun hge2 => ?_
              · have hin2 : i < z := by have := of_decide_eq_true hlt2; omega
                have hbx := byL_get x hin2
                have hbl2 := byL_len x z
                have hwl2 : (addW (wN H O p) p x i (byX x i)).length ≤ 1000000 := by
                  have := addW_len (wN H O p) p x i (byX x i)
                  have := hwl (byX x i)
                  omega
                obtain ⟨g, hWA⟩ := hW1
                obtain ⟨y, hgy, hyo⟩ := hWA.get (byX x i)
                have hyl2 := hyo.rows.len
                rw [List.length_map] at hyl2
                repeat ((conv => whnf); (first | refine Cnd.yes ?_ | refine Cnd.no ?_ | refine And.intro rfl ?_ | refine aom ?_ | refine Alt.std ?_ | (show Ko_ _ _ _ _; subst hKo_) | refine ctt ?_ | refine cff ?_))
                conv => whnf
                rw [hbx]
                repeat ((conv => whnf); (first | refine Cnd.yes ?_ | refine Cnd.no ?_ | refine And.intro rfl ?_ | refine aom ?_ | refine Alt.std ?_ | (show Ko_ _ _ _ _; subst hKo_) | refine ctt ?_ | refine cff ?_))
                conv => whnf
                refine ⟨InvC 198 (fun s : HL => WrIn s r1 (addW (wN H O p) p x (i + 1))) (fun s : HL => [(0, .ptr 0 0 0 0), (2, .v .nilIface), (3, .v (.int .i64 (allN H H.length))), (9, .v (.int .i64 p)), (67, .slc 2 2 0 O.length), (68, .v (.int .i64 O.length)), (69, .v (.int .i64 p)), (160, .slc 9 1 0 z), (161, .v (.int .i64 z)), (162, .v (.int .i64 i))]) (fun s : HL => plh eh eo eb H O P Q r1 r2 s B2 bl ++ [Ent.row true 36 [.int .u32] ((byL x z).map urow)]) M1, ?_, ?_⟩
                · repeat ((conv => whnf); (first | refine Cnd.yes ?_ | refine Cnd.no ?_ | refine And.intro rfl ?_ | refine aom ?_ | refine Alt.std ?_ | (show Ko_ _ _ _ _; subst hKo_) | refine ctt ?_ | refine cff ?_))
                  conv => whnf
                  refine ⟨?_, ?_⟩
                  · repeat ((conv => whnf); (first | refine Cnd.yes ?_ | refine Cnd.no ?_ | refine And.intro rfl ?_ | refine aom ?_ | refine Alt.std ?_ | (show Ko_ _ _ _ _; subst hKo_) | refine ctt ?_ | refine cff ?_))
                    conv => whnf
                    intro Mr hMr
                    repeat ((conv => whnf); (first | refine Cnd.yes ?_ | refine Cnd.no ?_ | refine And.intro rfl ?_ | refine aom ?_ | refine Alt.std ?_ | (show Ko_ _ _ _ _; subst hKo_) | refine ctt ?_ | refine cff ?_))
                    conv => whnf
                    refine ⟨false, A1, g, rfl, hWA.1, y, hgy, hyo.rows.is, ?_⟩
                    repeat ((conv => whnf); (first | refine Cnd.yes ?_ | refine Cnd.no ?_ | refine And.intro rfl ?_ | refine aom ?_ | (show Ko_ _ _ _ _; subst hKo_) | refine ctt ?_ | refine cff ?_))
                    conv => whnf
                    refine Alt.exact ⟨3, A1, (addW (wN H O p) p x i (byX x i)).map irow, rfl, hyo, by rw [List.length_map]; omega, ?_⟩
                    intro A2 k1 k2
                    have hrb : A2 r1 = A1 r1 := k1 r1 fun hb => by
                      obtain ⟨cur, hc⟩ := hyo.blk hb
                      obtain ⟨es, c, l, hb2, _⟩ := hWA.1
                      rw [hb2] at hc
                      cases hc
                    repeat ((conv => whnf); (first | refine Cnd.yes ?_ | refine Cnd.no ?_ | refine And.intro rfl ?_ | refine aom ?_ | refine Alt.std ?_ | (show Ko_ _ _ _ _; subst hKo_) | refine ctt ?_ | refine cff ?_))
                    conv => whnf
                    refine ⟨A2, g, rfl, hWA.1.keep hrb, ?_⟩
                    repeat ((conv => whnf); (first | refine Cnd.yes ?_ | refine Cnd.no ?_ | refine And.intro rfl ?_ | refine aom ?_ | refine Alt.std ?_ | (show Ko_ _ _ _ _; subst hKo_) | refine ctt ?_ | refine cff ?_))
                    conv => whnf
                    intro y2 A3 q1 q2 q3 q4
                    have q5 := own_push q2
                    have hp2 := WrIn.push hWA hgy k1 k2 q1 q5 q3 q4
                    repeat ((conv => whnf); (first | refine Cnd.yes ?_ | refine Cnd.no ?_ | refine And.intro rfl ?_ | refine aom ?_ | refine Alt.std ?_ | (show Ko_ _ _ _ _; subst hKo_) | refine ctt ?_ | refine cff ?_))
                    conv => whnf
                    refine ⟨[0, 1, 2, 3, 4, 5, 6, 7, 8, 9], tmk 198 0 ((fun s : HL => [(0, .ptr 0 0 0 0), (2, .v .nilIface), (3, .v (.int .i64 (allN H H.length))), (9, .v (.int .i64 p)), (67, .slc 2 2 0 O.length), (68, .v (.int .i64 O.length)), (69, .v (.int .i64 p)), (160, .slc 9 1 0 z), (161, .v (.int .i64 z)), (162, .v (.int .i64 i))]) (A3)), (fun s : HL => plh eh eo eb H O P Q r1 r2 s B2 bl ++ [Ent.row true 36 [.int .u32] ((byL x z).map urow)]) (A3), ?_⟩
                    repeat ((conv => whnf); (first | refine Cnd.yes ?_ | refine Cnd.no ?_ | refine And.intro rfl ?_ | refine aom ?_ | refine Alt.std ?_ | (show Ko_ _ _ _ _; subst hKo_)))
                    conv => whnf
                    exact ⟨A3, (addW_push hp2), rfl, (tmkK_eq _ _ _ _).mpr rfl, rfl⟩
                  · repeat ((conv => whnf); (first | refine Cnd.yes ?_ | refine Cnd.no ?_ | refine And.intro rfl ?_ | refine aom ?_ | (show Ko_ _ _ _ _; subst hKo_) | refine ctt ?_ | refine cff ?_))
                    conv => whnf
                    intro Mr hMr
                    repeat ((conv => whnf); (first | refine Cnd.yes ?_ | refine Cnd.no ?_ | refine And.intro rfl ?_ | refine aom ?_ | (show Ko_ _ _ _ _; subst hKo_) | refine ctt ?_ | refine cff ?_))
                    conv => whnf
                    refine ⟨false, A1, g, rfl, hWA.1, y, hgy, hyo.rows.is, ?_⟩
                    repeat ((conv => whnf); (first | refine Cnd.yes ?_ | refine Cnd.no ?_ | refine And.intro rfl ?_ | refine aom ?_ | (show Ko_ _ _ _ _; subst hKo_) | refine ctt ?_ | refine cff ?_))
                    conv => whnf
                    refine Alt.exact ⟨3, A1, (addW (wN H O p) p x i (byX x i)).map irow, rfl, hyo, by rw [List.length_map]; omega, ?_⟩
                    intro A2 k1 k2
                    have hrb : A2 r1 = A1 r1 := k1 r1 fun hb => by
                      obtain ⟨cur, hc⟩ := hyo.blk hb
                      obtain ⟨es, c, l, hb2, _⟩ := hWA.1
                      rw [hb2] at hc
                      cases hc
                    repeat ((conv => whnf); (first | refine Cnd.yes ?_ | refine Cnd.no ?_ | refine And.intro rfl ?_ | refine aom ?_ | refine Alt.std ?_ | (show Ko_ _ _ _ _; subst hKo_) | refine ctt ?_ | refine cff ?_))
                    conv => whnf
                    refine ⟨A2, g, rfl, hWA.1.keep hrb, ?_⟩
                    repeat ((conv => whnf); (first | refine Cnd.yes ?_ | refine Cnd.no ?_ | refine And.intro rfl ?_ | refine aom ?_ | refine Alt.std ?_ | (show Ko_ _ _ _ _; subst hKo_) | refine ctt ?_ | refine cff ?_))
                    conv => whnf
                    intro y2 A3 q1 q2 q3 q4
                    have q5 := own_push q2
                    have hp2 := WrIn.push hWA hgy k1 k2 q1 q5 q3 q4
                    repeat ((conv => whnf); (first | refine Cnd.yes ?_ | refine Cnd.no ?_ | refine And.intro rfl ?_ | refine aom ?_ | refine Alt.std ?_ | (show Ko_ _ _ _ _; subst hKo_) | refine ctt ?_ | refine cff ?_))
                    conv => whnf
                    refine ⟨[0, 1, 2, 3, 4, 5, 6, 7, 8, 9], tmk 198 0 ((fun s : HL => [(0, .ptr 0 0 0 0), (2, .v .nilIface), (3, .v (.int .i64 (allN H H.length))), (9, .v (.int .i64 p)), (67, .slc 2 2 0 O.length), (68, .v (.int .i64 O.length)), (69, .v (.int .i64 p)), (160, .slc 9 1 0 z), (161, .v (.int .i64 z)), (162, .v (.int .i64 i))]) (A3)), (fun s : HL => plh eh eo eb H O P Q r1 r2 s B2 bl ++ [Ent.row true 36 [.int .u32] ((byL x z).map urow)]) (A3), ?_⟩
                    repeat ((conv => whnf); (first | refine Cnd.yes ?_ | refine Cnd.no ?_ | refine And.intro rfl ?_ | refine aom ?_ | refine Alt.std ?_ | (show Ko_ _ _ _ _; subst hKo_)))
                    conv => whnf
                    exact ⟨A3, (addW_push hp2), rfl, (tmkK_eq _ _ _ _).mpr rfl, rfl⟩
                rintro tm hp M1 ⟨A3, hC_, rfl, htm, hhp_⟩
                replace hC_ : WrIn A3 r1 (addW (wN H O p) p x (i + 1)) := hC_
                have hW2 := hC_
                replace htm : tmkK 198 0 [(0, .ptr 0 0 0 0), (2, .v .nilIface), (3, .v (.int .i64 (allN H H.length))), (9, .v (.int .i64 p)), (67, .slc 2 2 0 O.length), (68, .v (.int .i64 O.length)), (69, .v (.int .i64 p)), (160, .slc 9 1 0 z), (161, .v (.int .i64 z)), (162, .v (.int .i64 i))] (fun l => tm = l) := htm
                conv at htm => whnf
                subst htm
                replace hhp_ : hp = plh eh eo eb H O P Q r1 r2 A3 B2 bl ++ [Ent.row true 36 [.int .u32] ((byL x z).map urow)] := hhp_
                subst hhp_
                repeat ((conv => whnf); (first | refine Cnd.yes ?_ | refine Cnd.no ?_ | refine And.intro rfl ?_ | refine aom ?_ | refine Alt.std ?_ | (show Ko_ _ _ _ _; subst hKo_) | refine ctt ?_ | refine cff ?_))
                conv => whnf
                (refine ⟨(fun s : (Nat × HL) => z - s.1) ((i + 1, A3)), [0, 1, 2, 3, 4, 5, 6, 7, 8, 9], tmk 198 0 ((fun s : (Nat × HL) => [(0, .ptr 0 0 0 0), (2, .v .nilIface), (3, .v (.int .i64 (allN H H.length))), (9, .v (.int .i64 p)), (67, .slc 2 2 0 O.length), (68, .v (.int .i64 O.length)), (69, .v (.int .i64 p)), (160, .slc 9 1 0 z), (161, .v (.int .i64 z)), (162, .v (.int .i64 s.1))]) ((i + 1, A3))), (fun s : (Nat × HL) => plh eh eo eb H O P Q r1 r2 s.2 B2 bl ++ [Ent.row true 36 [.int .u32] ((byL x z).map urow)]) ((i + 1, A3)), ?_, ?_⟩; focus (first | (simp only []; omega) | omega))
                repeat ((conv => whnf); (first | refine Cnd.yes ?_ | refine Cnd.no ?_ | refine And.intro rfl ?_ | refine aom ?_ | refine Alt.std ?_ | (show Ko_ _ _ _ _; subst hKo_)))
                conv => whnf
                exact ⟨(i + 1, A3), ⟨hin2, hW2⟩, rfl, rfl, (tmkK_eq _ _ _ _).mpr rfl, rfl⟩
              · obtain rfl : i = z := by have := of_decide_eq_false hge2; omega
                repeat ((conv => whnf); (first | refine Cnd.yes ?_ | refine Cnd.no ?_ | refine And.intro rfl ?_ | refine aom ?_ | refine Alt.std ?_ | (show Ko_ _ _ _ _; subst hKo_) | refine ctt ?_ | refine cff ?_))
                conv => whnf
                (refine ⟨(fun s : (Nat × HL × HL) => O.length - s.1) ((p + 1, A1, B2)), [0, 1, 2, 3, 4, 5, 6, 7, 8], tmk 198 0 ((fun s : (Nat × HL × HL) => [(0, .ptr 0 0 0 0), (2, .v .nilIface), (3, .v (.int .i64 (allN H H.length))), (67, .slc 2 2 0 O.length), (68, .v (.int .i64 O.length)), (69, .v (.int .i64 s.1))]) ((p + 1, A1, B2))), (fun s : (Nat × HL × HL) => plh eh eo eb H O P Q r1 r2 s.2.1 s.2.2 bl) ((p + 1, A1, B2)), ?_, ?_⟩; focus (first | (simp only []; omega) | omega))
                repeat ((conv => whnf); (first | refine Cnd.yes ?_ | refine Cnd.no ?_ | refine And.intro rfl ?_ | refine aom ?_ | refine Alt.std ?_ | (show Ko_ _ _ _ _; subst hKo_)))
                conv => whnf
                exact ⟨(p + 1, A1, B2), ⟨hpn, by rw [hwn]; exact hW1, hQ2, hFr2⟩, rfl, rfl, (tmkK_eq _ _ _ _).mpr rfl, rfl⟩
        · obtain rfl : p = O.length := by have := of_decide_eq_false hge; omega
          repeat ((conv => whnf); (first | refine Cnd.yes ?_ | refine Cnd.no ?_ | refine And.intro rfl ?_ | refine aom ?_ | refine Alt.std ?_ | (show Ko_ _ _ _ _; subst hKo_) | refine ctt ?_ | refine cff ?_))
          conv => whnf
          refine ⟨[0, 1, 2, 3, 4, 5, 6, 7, 8], .v .nilIface, plh eh eo eb H O P Q r1 r2 A B bl, ?_⟩
          repeat ((conv => whnf); (first | refine Cnd.yes ?_ | refine Cnd.no ?_ | refine And.intro rfl ?_ | refine aom ?_ | refine Alt.std ?_ | (show Ko_ _ _ _ _; subst hKo_)))
          conv => whnf
          exact hK P Q A B M1 hM1 hP hQ1 hW hFr1
def placesT : Vc.Trans := fun args hp M K => ∃ (eh eo eb : TypeId) (H : Hs) (O : List Rf) (r1 r2 : Nat) (N1 N2 : HL) (bl : List Int), args = [.ptr 0 0 0 0] ∧ hp = pl0 eh eo eb H O r1 r2 N1 N2 bl ∧ HIn M H ∧ ValidH H ∧ FrIn N2 r2 (fun _ => none) ∧ WrIn N1 r1 (fun _ => []) ∧ O.length ≤ 200000 ∧ (∀ r ∈ O, RefOK H r) ∧ (∀ r ∈ O, (opAt H r).k ≠ 4) ∧
  (∀ i j, i < j → j < O.length → O.getD i (0, 0) ≠ O.getD j (0, 0)) ∧ allN H H.length ≤ O.length ∧ (∀ r ∈ O, 0 ≤ (opAt H r).sz ∧ (opAt H r).sz ≤ 4) ∧
  ∀ P Q N1' N2' M', FLe M M' → PrIn M' P H → PosIn N2' Q (tabT H O O.length) → WrIn N1' r1 (wN H O O.length) → FrIn N2' r2 (fun _ => none) → K (.v .nilIface) (plh eh eo eb H O P Q r1 r2 N1' N2' bl) M'
theorem places_ok : TOK Tryd.prog 35 placesT := by
  refine TOK.weaken (TOK.out (runF_eq GT1_ok mixed at35.1 at35.2 pf35_eq)) fun args hp M K h => ?_
  obtain ⟨eh, eo, eb, H, O, r1, r2, N1, N2, bl, rfl, rfl, h1, h2, h3, h4, h5, h6, h7, h8, h9, h10, h11⟩ := h
  exact places_run M K eh eo eb H O r1 r2 N1 N2 bl h1 h2 h3 h4 h5 h6 h7 h8 h9 h10 h11
end Go.Proofs.YtkfkoldaeplckaaDoor
