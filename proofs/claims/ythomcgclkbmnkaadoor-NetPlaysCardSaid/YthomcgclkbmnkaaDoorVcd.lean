/-
  Symbolic execution, part D: reads and writes are sound.
-/
import Derived.Test.YthomcgclkbmnkaaDoorVcc
namespace Go.Vc

theorem den_vals {ρ : Nat → Loc} {s : SV} {y : Value} (h : Den ρ s y) (h1 : s.one = true) : y.oneCell' = true := by
  cases s <;> simp only [Den, SV.one] at h h1
  case v x => subst h; exact h1
  case ptr => obtain ⟨_, _, _, _, rfl⟩ := h; rfl
  case slc => obtain ⟨_, _, rfl, _⟩ := h; rfl
  case emp => obtain ⟨_, rfl⟩ := h; rfl
  case fn => obtain ⟨_, _, rfl, _⟩ := h; rfl
  case ifc => obtain ⟨_, rfl, _⟩ := h; rfl
  case rsl => obtain ⟨rfl, _, _, _, rfl, _⟩ := h; rfl
  case rpt => obtain ⟨_, _, _, _, rfl⟩ := h; rfl
  case slx => obtain ⟨_, _, _, _, rfl, _⟩ := h; rfl
  all_goals cases h1

theorem ev_den {ρ : Nat → Loc} {tm : List SV} {a : Act} (hD : DenL ρ tm a.tmps.toList) (x : Operand) : Den ρ (ev tm (carg x)) (a.eval x) := by
  cases x with
  | tmp n =>
    simp only [carg, ev, Act.eval]
    cases h : tm[n]? with
    | none => rw [sget_none h]; simp [Den]
    | some s =>
      obtain ⟨v, h1, h2⟩ := hD.get h
      rw [sget_some h]
      have : a.tmps.getD n undef = v := by
        simp at h1
        simp [h1]
      rw [this]; exact h2
  | const v => exact den_ofV ρ v
  | global g => simp [carg, ev, Act.eval, Den]
  | func f => exact ⟨[], [], rfl, by simp [DenL], by simp [DenL]⟩

theorem cell_in {w : World} {b off : Nat} {cs : Array Value} {e : TypeId} {fr : Nat × Nat} (h : w.heap[b]? = some (.cells cs e fr)) : w.cell? ⟨b, off, none⟩ = cs[off]? := by
  simp [World.cell?, h]

theorem mcell_cell {ρ : Nat → Loc} {hp : List Ent} {M F : HL} {w : World} (H : Holds ρ hp M F w) {a : Addr} {y : Value} (h : mcell M a = some y) : w.cell? a = some y := by
  unfold mcell at h
  split at h
  · rename_i c e fr hm
    have := H.frm _ _ (H.sub _ _ hm)
    split at h
    · cases h
    · rename_i hs
      simp [World.cell?, this, hs, h]
  · cases h

theorem readCK_spec {k : CK} {x : Value} {K : SV → Prop} (h : readCK k x K) (hf : k.fits x) : ∃ sv, K sv ∧ ∀ ρ, Den ρ sv x := by
  cases k with
  | int k => obtain ⟨n, rfl⟩ := hf; exact ⟨_, h, fun _ => rfl⟩
  | bool => obtain ⟨n, rfl⟩ := hf; exact ⟨_, h, fun _ => rfl⟩
  | raw => exact ⟨_, h x rfl hf, fun _ => rfl⟩
  | sl => exact ⟨_, h, fun _ => ⟨rfl, hf⟩⟩

theorem readN_spec {rows : List (List Value)} {i : Nat} : ∀ (n : Nat) (ck : List CK) (f : Nat) (K : List SV → Prop), readN rows i ck f n K →
    (∀ j k, j < n → ck[j]? = some k → k.fits (cellAt rows i (f + j))) → n ≤ ck.length ∧ ∃ l, K l ∧ ∀ ρ, DenL ρ l ((List.range n).map fun j => cellAt rows i (f + j))
  | 0, ck, f, K, h, _ => ⟨Nat.zero_le _, [], by simpa [readN] using h, fun _ => by simp [DenL]⟩
  | n + 1, [], f, K, h, _ => by simp [readN] at h
  | n + 1, k :: r, f, K, h, hall => by
    simp only [readN] at h
    obtain ⟨sv, h1, hsv⟩ := readCK_spec h (hall 0 k (by omega) rfl)
    obtain ⟨h2, l, h3, hl⟩ := readN_spec n r (f + 1) _ h1 (fun j k hj hk => by
      have := hall (j + 1) k (by omega) (by simpa using hk)
      rwa [show f + 1 + j = f + (j + 1) by omega])
    refine ⟨by simpa using h2, _, h3, fun ρ => ?_⟩
    rw [List.range_succ_eq_map, List.map_cons, List.map_map]
    have e : (fun j => cellAt rows i (f + j)) ∘ Nat.succ = fun j => cellAt rows i (f + 1 + j) := by
      funext j
      simp [Function.comp, show f + 1 + j = f + (j + 1) by omega]
    rw [e]
    simp only [DenL]
    exact ⟨hsv ρ, hl ρ⟩

theorem row_cell {ρ : Nat → Loc} {hp : List Ent} {M F : HL} {w : World} (H : Holds ρ hp M F w) {n : Nat} {own : Bool} {e : TypeId} {ck : List CK} {rows : List (List Value)}
    (he : hp[n]? = some (.row own e ck rows)) {b base cap : Nat} (hρ : ρ n = some (b, base, cap)) {i : Nat} (hi : i < rows.length) {f : Nat} {k : CK} (hf : ck[f]? = some k) :
    w.cell? ⟨b, base + (i * ck.length + f), none⟩ = some (cellAt rows i f) ∧ k.fits (cellAt rows i f) := by
  have h := H.ent n _ he
  simp only [EntOK, hρ] at h
  obtain ⟨_, cur, fr, h1, h2, h3⟩ := h
  obtain ⟨r, hr⟩ : ∃ r, rows[i]? = some r := ⟨_, List.getElem?_eq_getElem hi⟩
  obtain ⟨h4, h5⟩ := h3 i r hr
  have hfl : f < ck.length := (List.getElem?_eq_some_iff.1 hf).1
  obtain ⟨x, hx⟩ : ∃ x, r[f]? = some x := ⟨_, List.getElem?_eq_getElem (by omega)⟩
  have hc : cellAt rows i f = x := by simp [cellAt, List.getD, hr, hx]
  obtain ⟨h6, h7⟩ := h5 f k x hf hx
  have hblk : ∃ fr', w.heap[b]? = some (.cells cur e fr') := by
    cases own with
    | true => exact ⟨_, (by simpa using h1 : _ ∧ _).1⟩
    | false => exact ⟨fr, H.frm _ _ (H.sub _ _ (by simpa using h1))⟩
  obtain ⟨fr', hb⟩ := hblk
  rw [cell_in hb, hc]
  exact ⟨h6, h7⟩

/-- The cells of a slice that lies in what stays. -/
theorem RowsIn.cells {ρ : Nat → Loc} {hp : List Ent} {M F : HL} {w : World} (H : Holds ρ hp M F w) {e : TypeId} {ck : List CK} {y : Value} {rows : List (List Value)} (hR : RowsIn M e ck y rows) {a : Addr} {n c : Nat} (hy : y = .slice (some a) n c) {i : Nat} (hi : i < rows.length) :
    ∃ b base, a = ⟨b, base, none⟩ ∧ ∀ f k, ck[f]? = some k → w.cell? ⟨b, base + (i * ck.length + f), none⟩ = some (cellAt rows i f) ∧ k.fits (cellAt rows i f) := by
  obtain ⟨h0, ⟨rfl, _⟩ | ⟨b, base, c', cur, fr, h1, h2, h3, h4⟩⟩ := hR
  · simp at hi
  · rw [hy] at h1
    cases h1
    refine ⟨b, base, rfl, fun f k hf => ?_⟩
    obtain ⟨r, hr⟩ : ∃ r, rows[i]? = some r := ⟨_, List.getElem?_eq_getElem hi⟩
    obtain ⟨h5, h6⟩ := h4 i r hr
    have hfl : f < ck.length := (List.getElem?_eq_some_iff.1 hf).1
    obtain ⟨x, hx⟩ : ∃ x, r[f]? = some x := ⟨_, List.getElem?_eq_getElem (by omega)⟩
    have hc : cellAt rows i f = x := by simp [cellAt, List.getD, hr, hx]
    obtain ⟨h7, h8⟩ := h6 f k x hf hx
    rw [hc, cell_in (H.frm _ _ (H.sub _ _ h3))]
    exact ⟨h7, h8⟩

/-- What a load finds. -/
def Finds (s : Option Nat) (w : World) (a : Addr) (y : Value) : Prop :=
  match s with
  | none => w.cell? a = some y
  | some m => ∃ cs : List Value, y = .agg cs.toArray ∧ cs.length = m ∧ ∀ j v, cs[j]? = some v → w.cell? (a.add j) = some v

theorem add_lit (b o j : Nat) : (⟨b, o, none⟩ : Addr).add j = ⟨b, o + j, none⟩ := by unfold Addr.add; split <;> simp_all

theorem vLoadC_sound {s : Option Nat} {vs : List SV} {wd i f b : Nat} {K : SV → Prop} {ρ : Nat → Loc} {w : World} {cs : Array Value} {e : TypeId} {fr : Nat × Nat} (h : vLoadC vs wd f s K) (h2 : w.heap[b]? = some (.cells cs e fr)) (h3 : DenL ρ vs cs.toList) :
    ∃ a y sv, Value.pointer (some ⟨b, 0 + (i * wd + f), none⟩) = .pointer (some a) ∧ Finds s w a y ∧ K sv ∧ Den ρ sv y := by
  unfold vLoadC at h
  split at h
  · split at h
    · rename_i y r hy
      rw [dropN_eq] at hy
      have hy' : vs[f]? = some y := by
        have := congrArg (fun l => l[0]?) hy
        simpa using this
      obtain ⟨u, hu, hdu⟩ := h3.get hy'
      refine ⟨_, u, y, rfl, ?_, h, hdu⟩
      simp only [Finds, Nat.mul_zero, Nat.zero_add]
      rw [cell_in h2]
      simpa using hu
    · exact h.elim
  · rename_i m
    rw [takeN_iff, dropN_eq] at h
    obtain ⟨hm, hK⟩ := h
    refine ⟨_, .agg ((cs.toList.drop f).take m).toArray, _, rfl, ⟨(cs.toList.drop f).take m, rfl, ?_, ?_⟩, hK, ⟨_, rfl, (h3.drop f).take m⟩⟩
    · have := (h3.drop f).length
      rw [List.length_take, ← this]; omega
    · intro j u hj
      rw [add_lit, cell_in h2]
      rw [List.getElem?_take] at hj
      split at hj
      · simp only [Nat.mul_zero, Nat.zero_add]
        simpa using hj
      · cases hj
  · exact h.elim

theorem vLoad_sound {s : Option Nat} {x : SV} {hp : List Ent} {M F : HL} {K : SV → Prop} {ρ : Nat → Loc} {w : World} {v : Value} (h : vLoad s x hp M K) (H : Holds ρ hp M F w) (hd : Den ρ x v) :
    ∃ a y sv, v = .pointer (some a) ∧ Finds s w a y ∧ K sv ∧ Den ρ sv y := by
  unfold vLoad at h
  split at h
  · rename_i n wd i f
    simp only [Den] at hd
    obtain ⟨b, base, cap, hρ, rfl⟩ := hd
    split at h
    · rename_i e vs he
      have he := eget_ne he (by simp)
      have hE := H.ent n _ he
      obtain ⟨b', cap', cs, h1, h2, h3⟩ := hE
      rw [hρ] at h1
      cases h1
      exact vLoadC_sound h h2 h3
    · rename_i e vs he
      have he := eget_ne he (by simp)
      have hE := H.ent n _ he
      obtain ⟨b', cap', cs, fr, h1, h2, h3⟩ := hE
      rw [hρ] at h1
      cases h1
      exact vLoadC_sound h (H.frm _ _ (H.sub _ _ h2)) h3
    · rename_i own e ck rows he
      have he := eget_ne he (by simp)
      split at h
      · rename_i hw
        rw [llen_eq] at hw
        have hw := Nat.eq_of_beq_eq_true hw
        subst hw
        obtain ⟨hi, h⟩ := h
        split at h
        · split at h
          · rename_i k r hk
            rw [dropN_eq] at hk
            have hk' : ck[f]? = some k := by
              have := congrArg (fun l => l[0]?) hk
              simpa using this
            obtain ⟨h1, h2⟩ := row_cell H he hρ hi hk'
            obtain ⟨sv, h3, hsv⟩ := readCK_spec h h2
            exact ⟨_, _, _, rfl, h1, h3, hsv ρ⟩
          · exact h.elim
        · rename_i m
          have hfit : ∀ j k, j < m → (dropN ck f)[j]? = some k → k.fits (cellAt rows i (f + j)) := fun j k _ hk => by
            rw [dropN_eq, List.getElem?_drop] at hk
            exact (row_cell H he hρ hi hk).2
          obtain ⟨h1, lsv, h2, hlsv⟩ := readN_spec m _ f _ h hfit
          rw [dropN_eq, List.length_drop] at h1
          refine ⟨_, .agg ((List.range m).map fun j => cellAt rows i (f + j)).toArray, _, rfl, ⟨_, rfl, by simp, ?_⟩, h2, ⟨_, rfl, hlsv ρ⟩⟩
          · intro j u hj
            simp only [List.getElem?_map] at hj
            by_cases hjm : j < m
            · rw [List.getElem?_range hjm] at hj
              simp at hj
              subst hj
              obtain ⟨k, hk⟩ : ∃ k, ck[f + j]? = some k := ⟨_, List.getElem?_eq_getElem (by omega)⟩
              rw [add_lit, show base + (i * ck.length + f) + j = base + (i * ck.length + (f + j)) by omega]
              exact (row_cell H he hρ hi hk).1
            · simp [List.getElem?_eq_none (show (List.range m).length ≤ j by simp; omega)] at hj
      · exact h.elim
    · exact h.elim
  · rename_i a
    simp only [Den] at hd
    subst hd
    split at h
    · obtain ⟨y, h1, h2⟩ := h
      exact ⟨a, y, .v y, rfl, mcell_cell H h1, h2, rfl⟩
    · exact h.elim
  · rename_i y wd i f
    simp only [Den] at hd
    obtain ⟨a, n, c, hy, rfl⟩ := hd
    obtain ⟨e, ck, rows, hR, h⟩ := h
    split at h
    · rename_i hw
      rw [llen_eq] at hw
      have hw := Nat.eq_of_beq_eq_true hw
      subst hw
      obtain ⟨hi, h⟩ := h
      obtain ⟨b, base, rfl, hcell⟩ := RowsIn.cells H hR hy hi
      rw [add_lit]
      split at h
      · split at h
        · rename_i k r hk
          rw [dropN_eq] at hk
          have hk' : ck[f]? = some k := by
            have := congrArg (fun l => l[0]?) hk
            simpa using this
          obtain ⟨h1, h2⟩ := hcell f k hk'
          obtain ⟨sv, h3, hsv⟩ := readCK_spec h h2
          exact ⟨_, _, _, rfl, h1, h3, hsv ρ⟩
        · exact h.elim
      · rename_i m
        have hfit : ∀ j k, j < m → (dropN ck f)[j]? = some k → k.fits (cellAt rows i (f + j)) := fun j k _ hk => by
          rw [dropN_eq, List.getElem?_drop] at hk
          exact (hcell _ _ hk).2
        obtain ⟨h1, lsv, h2, hlsv⟩ := readN_spec m _ f _ h hfit
        rw [dropN_eq, List.length_drop] at h1
        refine ⟨_, .agg ((List.range m).map fun j => cellAt rows i (f + j)).toArray, _, rfl, ⟨_, rfl, by simp, ?_⟩, h2, ⟨_, rfl, hlsv ρ⟩⟩
        intro j u hj
        simp only [List.getElem?_map] at hj
        by_cases hjm : j < m
        · rw [List.getElem?_range hjm] at hj
          simp at hj
          subst hj
          obtain ⟨k, hk⟩ : ∃ k, ck[f + j]? = some k := ⟨_, List.getElem?_eq_getElem (by omega)⟩
          rw [add_lit, show base + (i * ck.length + f) + j = base + (i * ck.length + (f + j)) by omega]
          exact (hcell _ _ hk).1
        · simp [List.getElem?_eq_none (show (List.range m).length ≤ j by simp; omega)] at hj
    · exact h.elim
  · exact h.elim

/-- A block of one's own is laid anew. -/
theorem Holds.setRow {ρ : Nat → Loc} {hp : List Ent} {M F : HL} {w : World} (H : Holds ρ hp M F w) {n : Nat} {e e' : Ent} (he : hp[n]? = some e) (ho : e.own = true) {b base cap : Nat} (hρ : ρ n = some (b, base, cap))
    {cs' : Array Value} (hE : EntOK ρ M (w.setRow b cs') n e') : Holds ρ (hp.set n e') M F (w.setRow b cs') := by
  have hn : n < hp.length := (List.getElem?_eq_some_iff.1 he).1
  have hown : ∀ m c, owns ρ (hp.set n e') m c → owns ρ hp m c := by
    rintro m c ⟨e1, ba, ca, h1, h2, h3⟩
    by_cases hm : m = n
    · subst hm
      exact ⟨e, ba, ca, he, ho, h3⟩
    · rw [List.getElem?_set_ne (by omega)] at h1
      exact ⟨e1, ba, ca, h1, h2, h3⟩
  have hnb : owns ρ hp n b := ⟨e, base, cap, he, ho, hρ⟩
  refine ⟨fun m e1 h1 => ?_, fun m k c h1 h2 => H.sep m k c (hown _ _ h1) (hown _ _ h2), fun m c h1 => H.out m c (hown _ _ h1), fun k o hk => ?_, H.sub, fun m hm => H.dom m (by simpa using hm)⟩
  · by_cases hm : m = n
    · subst hm
      rw [List.getElem?_set_self hn] at h1
      cases h1
      exact hE
    · rw [List.getElem?_set_ne (by omega)] at h1
      refine (H.ent m e1 h1).keep (fun _ _ h => h) rfl (FLe.refl M) fun c ba ca h2 h3 => ?_
      refine setRow_other w b c cs' fun hc => hm ?_
      subst hc
      exact H.sep m n c ⟨e1, ba, ca, h1, h2, h3⟩ hnb
  · rw [setRow_other w b k cs' ?_]
    · exact H.frm k o hk
    · intro hc
      subst hc
      rw [H.out n k hnb] at hk
      cases hk

theorem Same.setRow (w : World) (b : Nat) (cs : Array Value) : Same w (w.setRow b cs) := ⟨rfl, rfl, rfl, by simp [World.setRow]⟩

theorem flat_iff {y : SV} {K : List SV → Prop} (h : flat y K) : ∃ l, K l ∧ (y = .agg l ∨ (l = [y] ∧ (∀ l', y ≠ .agg l') ∧ (∀ l', y ≠ .tup l') ∧ y ≠ .any)) := by
  cases y <;> simp only [flat] at h
  case agg l => exact ⟨l, h, .inl rfl⟩
  all_goals exact ⟨_, h, .inr ⟨rfl, by simp, by simp, by simp⟩⟩

theorem oneL_spec : ∀ {l : List SV}, oneL l = true → ∀ s ∈ l, s.one = true
  | [], _, s, hs => by cases hs
  | a :: r, h, s, hs => by
    simp only [oneL] at h
    cases ha : a.one with
    | true =>
      simp only [ha] at h
      rcases List.mem_cons.1 hs with rfl | hs
      · exact ha
      · exact oneL_spec h s hs
    | false => simp [ha] at h

/-- The cells of a value whose symbolic cells are l. -/
theorem den_flat {ρ : Nat → Loc} {y : SV} {v : Value} {l : List SV} (hd : Den ρ y v) (h : y = .agg l ∨ (l = [y] ∧ (∀ l', y ≠ .agg l') ∧ (∀ l', y ≠ .tup l') ∧ y ≠ .any)) (h1 : oneL l = true) :
    DenL ρ l v.cells.toList ∧ ∀ x ∈ v.cells.toList, x.oneCell' = true := by
  have key : DenL ρ l v.cells.toList := by
    rcases h with rfl | ⟨rfl, h2, h3, h4⟩
    · simp only [Den] at hd
      obtain ⟨cs, rfl, hd⟩ := hd
      simpa [Value.cells] using hd
    · have : v.oneCell' = true := den_vals hd (oneL_spec h1 y (by simp))
      have hc : v.cells = #[v] := by cases v <;> first | rfl | cases this
      rw [hc]
      simp only [DenL]
      exact ⟨hd, trivial⟩
  refine ⟨key, fun x hx => ?_⟩
  obtain ⟨j, hj⟩ := List.getElem?_of_mem hx
  have hl := key.length
  have hjl : j < l.length := by rw [hl]; exact (List.getElem?_eq_some_iff.1 hj).1
  obtain ⟨u, hu, hdu⟩ := key.get (List.getElem?_eq_getElem hjl)
  rw [hj] at hu
  cases hu
  exact den_vals hdu (oneL_spec h1 _ (List.getElem_mem hjl))

theorem valsOf_spec {ρ : Nat → Loc} : ∀ {ck : List CK} {l : List SV} {K : List Value → Prop}, valsOf ck l K → ∃ vs, K vs ∧ l.length = vs.length ∧ (∀ us, DenL ρ l us → us = vs ∧ (∀ (j : Nat) (k : CK) (x : Value), ck[j]? = some k → vs[j]? = some x → k.fits x)) ∧ oneL l = true ∧ vs.length ≤ ck.length
  | ck, [], K, h => ⟨[], by simpa [valsOf] using h, rfl, fun us hu => by cases us with
    | nil => exact ⟨rfl, by simp⟩
    | cons => simp [DenL] at hu, rfl, by simp⟩
  | [], s :: l, K, h => by cases s <;> simp [valsOf] at h
  | k :: r, s :: l, K, h => by
    have go : ∀ x : Value, (∀ u, Den ρ s u → u = x ∧ k.fits x) → s.one = true → valsOf r l (fun vs => K (x :: vs)) → ∃ vs, K vs ∧ (s :: l).length = vs.length ∧
        (∀ us, DenL ρ (s :: l) us → us = vs ∧ (∀ (j : Nat) (k' : CK) (x : Value), (k :: r)[j]? = some k' → vs[j]? = some x → k'.fits x)) ∧ oneL (s :: l) = true ∧ vs.length ≤ (k :: r).length := by
      intro x hs ho h
      obtain ⟨vs, h1, h2, h3, h4, h5⟩ := valsOf_spec (ρ := ρ) h
      refine ⟨x :: vs, h1, by simp [h2], fun us hu => ?_, by simp only [oneL, ho, h4], by simpa using h5⟩
      cases us with
      | nil => simp [DenL] at hu
      | cons u us =>
        simp only [DenL] at hu
        obtain ⟨rfl, hf⟩ := hs u hu.1
        obtain ⟨rfl, hall⟩ := h3 us hu.2
        refine ⟨rfl, fun j k' x' hk hx => ?_⟩
        cases j with
        | zero => simp at hk hx; subst hk; subst hx; exact hf
        | succ j => exact hall j k' x' (by simpa using hk) (by simpa using hx)
    unfold valsOf at h
    split at h
    · rename_i h0; cases h0
    · rename_i k1 r1 k2 a l1 h0 h1
      cases h0; cases h1
      split at h
      · rename_i hk
        have := kEq_eq hk
        subst this
        exact go _ (fun u hu => ⟨by simpa [Den] using hu.symm, ⟨a, rfl⟩⟩) rfl h
      · exact h.elim
    · rename_i r1 a l1 h0 h1
      cases h0; cases h1
      exact go _ (fun u hu => ⟨by simpa [Den] using hu.symm, ⟨a, rfl⟩⟩) rfl h
    · rename_i r1 x l1 h0 h1
      cases h0; cases h1
      split at h
      · rename_i hx
        exact go _ (fun u hu => ⟨by simpa [Den] using hu.symm, hx⟩) hx h
      · exact h.elim
    · rename_i r1 y l1 h0 h1
      cases h0; cases h1
      exact go _ (fun u hu => by simp only [Den] at hu; exact ⟨hu.1, hu.2⟩) rfl h
    · rename_i r1 l1 h0 h1
      cases h0; cases h1
      exact go _ (fun u hu => ⟨by simpa [Den] using hu.symm, ⟨none, 0, 0, rfl, Nat.le_refl _, fun _ => rfl⟩⟩) rfl h
    · exact h.elim

theorem take_over {cs : List Value} {f : Nat} {l : List Value} (hl : f + l.length ≤ cs.length) (j : Nat) :
    (cs.take f ++ l ++ cs.drop (f + l.length))[j]? = if f ≤ j ∧ j < f + l.length then l[j - f]? else cs[j]? := by
  by_cases h1 : j < f
  · rw [if_neg (by omega), List.append_assoc, List.getElem?_append_left (by simp; omega), List.getElem?_take_of_lt h1]
  · by_cases h2 : j < f + l.length
    · rw [if_pos ⟨by omega, h2⟩, List.append_assoc, List.getElem?_append_right (by simp; omega), List.getElem?_append_left (by simp; omega)]
      congr 1
      simp; omega
    · rw [if_neg (by omega), List.getElem?_append_right (by simp; omega), List.getElem?_drop]
      congr 1
      simp; omega

theorem take_over' {α : Type} {cs : List α} {f : Nat} {l : List α} (hl : f + l.length ≤ cs.length) (j : Nat) :
    (cs.take f ++ l ++ cs.drop (f + l.length))[j]? = if f ≤ j ∧ j < f + l.length then l[j - f]? else cs[j]? := by
  by_cases h1 : j < f
  · rw [if_neg (by omega), List.append_assoc, List.getElem?_append_left (by simp; omega), List.getElem?_take_of_lt h1]
  · by_cases h2 : j < f + l.length
    · rw [if_pos ⟨by omega, h2⟩, List.append_assoc, List.getElem?_append_right (by simp; omega), List.getElem?_append_left (by simp; omega)]
      congr 1
      simp; omega
    · rw [if_neg (by omega), List.getElem?_append_right (by simp; omega), List.getElem?_drop]
      congr 1
      simp; omega
theorem vStore0_sound {P : Program} {m : Nat} {x : SV} {l : List SV} {hp : List Ent} {M F : HL} {K : List Ent → Prop} {ρ : Nat → Loc} {w : World} {p v : Value} (h : vStore0 m x l hp K) (H : Holds ρ hp M F w) (hp' : Den ρ x p)
    (hv : oneL l = true → DenL ρ l v.cells.toList ∧ ∀ x ∈ v.cells.toList, x.oneCell' = true) :
    ∃ a hp' w', p = .pointer (some a) ∧ v.cells.size = m ∧ (storeCells a v.cells.toList).run P w = .ok () w' ∧ K hp' ∧ hp'.length = hp.length ∧ Holds ρ hp' M F w' ∧ Same w w' := by
  unfold vStore0 at h
  split at h
  case h_2 => exact h.elim
  rename_i hlen
  rw [llen_eq] at hlen
  have hlen := Nat.eq_of_beq_eq_true hlen
  split at h
  case h_2 => exact h.elim
  rename_i n wd i f
  simp only [Den] at hp'
  obtain ⟨b, base, cap, hρ, rfl⟩ := hp'
  split at h
  · rename_i e vs he
    have he := eget_ne he (by simp)
    obtain ⟨b', cap', cs, h1, h2, h3⟩ := H.ent n _ he
    rw [hρ] at h1
    cases h1
    split at h
    case h_2 => exact h.elim
    rename_i hone
    obtain ⟨hd, hoc⟩ := hv hone
    rw [overN_iff] at h
    obtain ⟨hfit, h⟩ := h
    rw [eset_iff] at h
    have hcl := h3.length
    have hdl := hd.length
    have hst := run_storeCells_at P b f e v.cells.toList 0 cs w h2 (by rw [← hdl]; simp at hcl ⊢; omega) hoc
    simp only [Nat.add_zero] at hst
    refine ⟨⟨b, 0 + (i * 0 + f), none⟩, _, _, rfl, ?_, (by simp only [Nat.mul_zero, Nat.zero_add]; exact hst), h, by simp, ?_, Same.setRow _ _ _⟩
    · rw [← hlen, hdl]; simp
    · refine H.setRow he rfl hρ ?_
      refine ⟨b, cap, _, hρ, setRow_heap w b cs _ e _ h2, ?_⟩
      rw [show (v.cells.toList).length = l.length from hdl.symm]
      simpa using ((h3.take f).append hd).append (h3.drop (f + l.length))
  · rename_i e ck rows he
    have he := eget_ne he (by simp)
    split at h
    case h_2 => exact h.elim
    rename_i hw hfm
    rw [llen_eq] at hw hfm
    have hfm := Nat.le_of_ble_eq_true hfm
    have hw := Nat.eq_of_beq_eq_true hw
    subst hw
    obtain ⟨hi, h⟩ := h
    obtain ⟨vals, h, hl, hrig, hone, hvl⟩ := valsOf_spec (ρ := ρ) h
    rw [eset_iff] at h
    rw [dropN_eq, List.length_drop] at hvl
    obtain ⟨hd, hoc⟩ := hv hone
    obtain ⟨hcells, hfits⟩ := hrig _ hd
    have hE := H.ent n _ he
    simp only [EntOK, hρ, if_true] at hE
    obtain ⟨h0, cur, fr, ⟨h1, hsz, hcap⟩, hrl, hrow⟩ := hE
    have hvlen : vals.length = m := by rw [← hlen, hl]
    obtain ⟨r, hr⟩ : ∃ r, rows[i]? = some r := ⟨_, List.getElem?_eq_getElem hi⟩
    obtain ⟨hrlen, hrc⟩ := hrow i r hr
    have hmul : ∀ j, j < cap → j * ck.length + ck.length ≤ cap * ck.length := fun j hj => by
      have h2 : (j + 1) * ck.length ≤ cap * ck.length := Nat.mul_le_mul_right _ (by omega)
      rwa [Nat.succ_mul] at h2
    have hbound : base + (i * ck.length + f) + vals.length ≤ cur.size := by
      have := hmul i (by omega)
      omega
    have hst := run_storeCells_at P b (base + (i * ck.length + f)) e v.cells.toList 0 cur w h1 (by rw [hcells, Nat.add_zero]; exact hbound) hoc
    simp only [Nat.add_zero] at hst
    rw [hcells] at hst ⊢
    refine ⟨⟨b, base + (i * ck.length + f), none⟩, _, _, rfl, ?_, hst, h, by simp, ?_, Same.setRow _ _ _⟩
    · rw [← Array.length_toList, hcells, hvlen]
    · refine H.setRow he rfl hρ ?_
      simp only [EntOK, hρ, if_true]
      have hsz' : (cur.toList.take (base + (i * ck.length + f)) ++ vals ++ cur.toList.drop (base + (i * ck.length + f) + vals.length)).toArray.size = cur.size := by
        simp; omega
      refine ⟨h0, _, (0, 0), ⟨setRow_heap w b cur _ e _ h1, by rw [hsz', hsz], hcap⟩, by simpa using hrl, ?_⟩
      intro i' r' hr'
      have hover : (over r f vals).length = ck.length := by simp [over]; omega
      have hi'l : i' < rows.length := by have := (List.getElem?_eq_some_iff.1 hr').1; simpa using this
      have hgd : rows.getD i [] = r := by simp [List.getD, hr]
      rw [hgd] at hr'
      by_cases hii : i' = i
      · subst hii
        rw [List.getElem?_set_self hi] at hr'
        cases hr'
        refine ⟨hover, fun f' k x hk hx => ?_⟩
        have hf' : f' < ck.length := (List.getElem?_eq_some_iff.1 hk).1
        unfold over at hx
        rw [take_over (by omega)] at hx
        simp only [List.getElem?_toArray]
        rw [take_over (by simpa using hbound)]
        split at hx
        · rename_i hin
          rw [if_pos (by omega), show base + (i' * ck.length + f') - (base + (i' * ck.length + f)) = f' - f by omega]
          refine ⟨hx, hfits (f' - f) k x ?_ hx⟩
          rw [dropN_eq, List.getElem?_drop, show f + (f' - f) = f' by omega]
          exact hk
        · rename_i hout
          rw [if_neg (by omega)]
          have := hrc f' k x hk hx
          simpa using this
      · rw [List.getElem?_set_ne (by omega)] at hr'
        obtain ⟨h4, h5⟩ := hrow i' r' hr'
        refine ⟨h4, fun f' k x hk hx => ?_⟩
        have hf' : f' < ck.length := (List.getElem?_eq_some_iff.1 hk).1
        obtain ⟨h6, h7⟩ := h5 f' k x hk hx
        refine ⟨?_, h7⟩
        simp only [List.getElem?_toArray]
        rw [take_over (by simpa using hbound), if_neg, ]
        · simpa using h6
        · intro ⟨ha, hb⟩
          rcases Nat.lt_or_ge i' i with hlt | hge
          · have : i' * ck.length + ck.length ≤ i * ck.length := by
              have h2 : (i' + 1) * ck.length ≤ i * ck.length := Nat.mul_le_mul_right _ (by omega)
              rwa [Nat.succ_mul] at h2
            omega
          · have : i * ck.length + ck.length ≤ i' * ck.length := by
              have h2 : (i + 1) * ck.length ≤ i' * ck.length := Nat.mul_le_mul_right _ (by omega)
              rwa [Nat.succ_mul] at h2
            omega
  · exact h.elim

/-- An entry that is let be: its block belongs to what stays. -/
theorem Holds.freeze {ρ : Nat → Loc} {hp : List Ent} {M F : HL} {w : World} (H : Holds ρ hp M F w) {n : Nat} {e : TypeId} {ck : List CK} {rows : List (List Value)} (he : hp[n]? = some (.row true e ck rows)) {b base cap : Nat} (hρ : ρ n = some (b, base, cap)) :
    ∃ M' F' cur, Holds ρ (hp.set n .gone) M' F' w ∧ Gr M F M' F' ∧ M' b = some (.cells cur e (0, 0)) ∧ rows.length ≤ cap ∧ RowAt ck cur base rows := by
  have hE := H.ent n _ he
  simp only [EntOK, hρ, if_true] at hE
  obtain ⟨_, cur, fr, ⟨h1, _, _⟩, h2, h3⟩ := hE
  have hnb : owns ρ hp n b := ⟨_, base, cap, he, rfl, hρ⟩
  have hFb := H.out n b hnb
  have hn : n < hp.length := (List.getElem?_eq_some_iff.1 he).1
  have hown : ∀ m c, owns ρ (hp.set n .gone) m c → m ≠ n ∧ owns ρ hp m c := by
    rintro m c ⟨e1, ba, ca, h1, h2, h3⟩
    by_cases hm : n = m
    · subst hm
      rw [List.getElem?_set_self hn] at h1
      cases h1; cases h2
    · rw [List.getElem?_set_ne hm] at h1
      exact ⟨fun h => hm h.symm, e1, ba, ca, h1, h2, h3⟩
  have hMb : M b = none := by
    cases hm : M b with
    | none => rfl
    | some o => rw [H.sub _ _ hm] at hFb; cases hFb
  have hMM : FLe M fun k => if k = b then some (.cells cur e (0, 0)) else M k := fun k o h => by
    by_cases hk : k = b
    · subst hk; rw [hMb] at h; cases h
    · simp only [if_neg hk]; exact h
  refine ⟨fun k => if k = b then some (.cells cur e (0, 0)) else M k, fun k => if k = b then some (.cells cur e (0, 0)) else F k, cur, ⟨fun m e1 h4 => ?_, fun m k c h4 h5 => H.sep m k c (hown _ _ h4).2 (hown _ _ h5).2, fun m c h4 => ?_, fun k o hk => ?_, fun k o hk => ?_, fun m hm => H.dom m (by simpa using hm)⟩, ⟨fun k o h => ?_, hMM, fun k o h => ?_⟩, by simp, h2, h3⟩
  · by_cases hm : n = m
    · subst hm
      rw [List.getElem?_set_self hn] at h4
      cases h4
      trivial
    · rw [List.getElem?_set_ne hm] at h4
      exact (H.ent m e1 h4).keep (fun _ _ h => h) rfl hMM fun _ _ _ _ _ => rfl
  · obtain ⟨h5, h6⟩ := hown m c h4
    have hc : c ≠ b := fun h => by subst h; exact h5 (H.sep _ _ _ h6 hnb)
    simp only [if_neg hc]
    exact H.out m c h6
  · by_cases hkb : k = b
    · simp only [if_pos hkb] at hk
      rw [hkb, h1]; exact hk
    · simp only [if_neg hkb] at hk
      exact H.frm k o hk
  · by_cases hkb : k = b
    · simp only [if_pos hkb] at hk ⊢; exact hk
    · simp only [if_neg hkb] at hk ⊢
      exact H.sub k o hk
  · by_cases hk : k = b
    · subst hk; rw [hFb] at h; cases h
    · simp only [if_neg hk]; exact h
  · by_cases hkb : k = b
    · exact .inr (by rw [hkb]; exact hFb)
    · simp only [if_neg hkb] at h; exact .inl h

theorem RowAt.sub {ck : List CK} {cur : Array Value} {base : Nat} {rows : List (List Value)} (h : RowAt ck cur base rows) (i n : Nat) : RowAt ck cur (base + i * ck.length) ((rows.drop i).take n) := fun j r hr => by
  rw [List.getElem?_take] at hr
  split at hr
  · rw [List.getElem?_drop] at hr
    obtain ⟨h1, h2⟩ := h (i + j) r hr
    refine ⟨h1, fun f k x hk hx => ?_⟩
    have := h2 f k x hk hx
    rwa [Nat.add_mul, show base + (i * ck.length + j * ck.length + f) = base + i * ck.length + (j * ck.length + f) by omega] at this
  · cases hr

theorem Holds.seen {ρ : Nat → Loc} {hp : List Ent} {M F : HL} {w : World} {n : Nat} (H : Holds ρ (hp.set n .gone) M F w) (hn : n < hp.length) {e : Ent} (ho : e.own = false) (he : EntOK ρ M w n e) : Holds ρ (hp.set n e) M F w := by
  have hown : ∀ m c, owns ρ (hp.set n e) m c → owns ρ (hp.set n .gone) m c := by
    rintro m c ⟨e1, ba, ca, h1, h2, h3⟩
    by_cases hm : n = m
    · subst hm
      rw [List.getElem?_set_self hn] at h1
      cases h1; rw [ho] at h2; cases h2
    · rw [List.getElem?_set_ne hm] at h1
      exact ⟨e1, ba, ca, by rw [List.getElem?_set_ne hm]; exact h1, h2, h3⟩
  refine ⟨fun m e1 h1 => ?_, fun m k c h1 h2 => H.sep m k c (hown _ _ h1) (hown _ _ h2), fun m c h1 => H.out m c (hown _ _ h1), H.frm, H.sub, fun m hm => H.dom m (by simpa using hm)⟩
  by_cases hm : n = m
  · subst hm
    rw [List.getElem?_set_self hn] at h1
    cases h1
    exact he
  · rw [List.getElem?_set_ne hm] at h1
    exact H.ent m e1 (by rw [List.getElem?_set_ne hm]; exact h1)
theorem frz1_sound {s : SV} {hp : List Ent} {M F : HL} {K : SV → List Ent → HL → Prop} {ρ : Nat → Loc} {w : World} {v : Value} (h : frz1 s hp M K) (H : Holds ρ hp M F w) (hd : Den ρ s v) :
    ∃ s' hp' M' F', K s' hp' M' ∧ hp'.length = hp.length ∧ Holds ρ hp' M' F' w ∧ Gr M F M' F' ∧ Den ρ s' v ∧ s.one = s'.one := by
  have same : ∀ s', K s' hp M → Den ρ s' v → s.one = s'.one → ∃ s' hp' M' F', K s' hp' M' ∧ hp'.length = hp.length ∧ Holds ρ hp' M' F' w ∧ Gr M F M' F' ∧ Den ρ s' v ∧ s.one = s'.one := fun s' h1 h2 h3 => ⟨s', hp, M, F, h1, rfl, H, Gr.refl M F, h2, h3⟩
  unfold frz1 at h
  split at h
  · simp only [Den] at hd
    obtain ⟨a, rfl⟩ := hd
    exact same _ (h a) ⟨rfl, a, 0, 0, rfl, Nat.le_refl _, fun _ => rfl⟩ rfl
  · rename_i n wd i len
    simp only [Den] at hd
    obtain ⟨a, c, rfl, hlc, hor⟩ := hd
    split at h
    · rename_i e ck rows he
      have he := eget_ne he (by simp)
      split at h
      case h_2 => exact h.elim
      rename_i hw
      rw [llen_eq] at hw
      have hw := Nat.eq_of_beq_eq_true hw
      subst hw
      obtain ⟨hil, h⟩ := h
      have h0 : 0 < ck.length := (H.ent n _ he).1
      have hnl : n < hp.length := (List.getElem?_eq_some_iff.1 he).1
      have hall : ∃ M' F', Holds ρ (hp.set n (.row false e ck rows)) M' F' w ∧ Gr M F M' F' ∧ ∀ b base cap, ρ n = some (b, base, cap) → ∃ cur, M' b = some (.cells cur e (0, 0)) ∧ RowAt ck cur base rows := by
        cases hρ : ρ n with
        | none =>
          have hE := H.ent n _ he
          simp only [EntOK, hρ] at hE
          have hown : ∀ m c, owns ρ (hp.set n .gone) m c → owns ρ hp m c := by
            rintro m c ⟨e1, ba, ca, h1, h2, h3⟩
            by_cases hm : n = m
            · subst hm
              rw [List.getElem?_set_self hnl] at h1
              cases h1; cases h2
            · rw [List.getElem?_set_ne hm] at h1
              exact ⟨e1, ba, ca, h1, h2, h3⟩
          have H0 : Holds ρ (hp.set n .gone) M F w := ⟨fun m e1 h1 => by
            by_cases hm : n = m
            · subst hm
              rw [List.getElem?_set_self hnl] at h1
              cases h1
              trivial
            · rw [List.getElem?_set_ne hm] at h1
              exact H.ent m e1 h1, fun m k c h1 h2 => H.sep m k c (hown _ _ h1) (hown _ _ h2), fun m c h1 => H.out m c (hown _ _ h1), H.frm, H.sub, fun m hm => H.dom m (by simpa using hm)⟩
          exact ⟨M, F, H0.seen hnl rfl (by simp only [EntOK, hρ]; exact ⟨h0, hE.2⟩), Gr.refl M F, fun b base cap h => by cases h⟩
        | some x =>
          obtain ⟨b, base, cap⟩ := x
          obtain ⟨M', F', cur, H', hG, hM, hrl, hrow⟩ := H.freeze he hρ
          exact ⟨M', F', H'.seen hnl rfl (by simp only [EntOK, hρ, Bool.false_eq_true, if_false]; exact ⟨h0, cur, (0, 0), hM, hrl, hrow⟩), hG, fun b' base' cap' h => by cases h; exact ⟨cur, hM, hrow⟩⟩
      obtain ⟨M', F', H', hG, hc⟩ := hall
      rcases hor with rfl | ⟨b, base, cap, hρ, rfl, hcap⟩
      · obtain rfl : len = 0 := by omega
        have := h (.slice a 0 0) M' hG.kn ⟨h0, .inl ⟨by simp, a, rfl⟩⟩
        rw [eset_iff] at this
        exact ⟨_, _, M', F', this, by simp, H', hG, ⟨rfl, a, 0, 0, rfl, Nat.le_refl _, fun _ => rfl⟩, rfl⟩
      · obtain ⟨cur, hM, hrow⟩ := hc b base cap hρ
        have hlen : ((rows.drop i).take len).length = len := by simp; omega
        have := h (.slice (some ⟨b, base + i * ck.length, none⟩) len c) M' hG.kn ⟨h0, .inr ⟨b, base + i * ck.length, c, cur, (0, 0), by rw [hlen], by omega, hM, hrow.sub i len⟩⟩
        rw [eset_iff] at this
        exact ⟨_, _, M', F', this, by simp, H', hG, ⟨rfl, _, _, _, rfl, hlc, fun h => by cases h⟩, rfl⟩
    · rename_i e ck rows he
      have he := eget_ne he (by simp)
      split at h
      case h_2 => exact h.elim
      rename_i hw
      rw [llen_eq] at hw
      have hw := Nat.eq_of_beq_eq_true hw
      subst hw
      obtain ⟨hil, h⟩ := h
      have hE := H.ent n _ he
      simp only [EntOK] at hE
      obtain ⟨h0, hE⟩ := hE
      rcases hor with rfl | ⟨b, base, cap, hρ, rfl, hcap⟩
      · obtain rfl : len = 0 := by omega
        exact same _ (h (.slice a 0 0) ⟨h0, .inl ⟨by simp, a, rfl⟩⟩) ⟨rfl, a, 0, 0, rfl, Nat.le_refl _, fun _ => rfl⟩ rfl
      · rw [hρ] at hE
        simp only [Bool.false_eq_true, if_false] at hE
        obtain ⟨cur, fr, hM, hrl, hrow⟩ := hE
        have hlen : ((rows.drop i).take len).length = len := by simp; omega
        exact same _ (h (.slice (some ⟨b, base + i * ck.length, none⟩) len c) ⟨h0, .inr ⟨b, base + i * ck.length, c, cur, fr, by rw [hlen], by omega, hM, hrow.sub i len⟩⟩) ⟨rfl, _, _, _, rfl, hlc, fun h => by cases h⟩ rfl
    · exact h.elim
  case h_11 =>
    rename_i n wd len c
    simp only [Den] at hd
    obtain ⟨b, base, cap, hρ, rfl, hlc, hcc⟩ := hd
    split at h
    case h_2 => exact h.elim
    rename_i e ck rows he
    have he := eget_ne he (by simp)
    split at h
    case h_2 => exact h.elim
    rename_i hw
    rw [llen_eq] at hw
    have hw := Nat.eq_of_beq_eq_true hw
    subst hw
    obtain ⟨hil, h⟩ := h
    have h0 : 0 < ck.length := (H.ent n _ he).1
    have hnl : n < hp.length := (List.getElem?_eq_some_iff.1 he).1
    obtain ⟨M', F', cur, H', hG, hM, hrl, hrow⟩ := H.freeze he hρ
    have H'' := H'.seen hnl (e := .row false e ck rows) rfl (by simp only [EntOK, hρ, Bool.false_eq_true, if_false]; exact ⟨h0, cur, (0, 0), hM, hrl, hrow⟩)
    have hlen : (rows.take len).length = len := by simp; omega
    have hr := hrow.sub 0 len
    rw [Nat.zero_mul, Nat.add_zero, List.drop_zero] at hr
    have := h (.slice (some ⟨b, base, none⟩) len c) M' hG.kn ⟨h0, .inr ⟨b, base, c, cur, (0, 0), by rw [hlen], by omega, hM, hr⟩⟩ rfl
    rw [eset_iff] at this
    exact ⟨_, _, M', F', this, by simp, H'', hG, ⟨rfl, _, _, _, rfl, hlc, fun h => by cases h⟩, rfl⟩
  all_goals exact same _ h hd rfl
theorem frzL_sound {ρ : Nat → Loc} {w : World} : ∀ {l : List SV} {hp : List Ent} {M F : HL} {K : List SV → List Ent → HL → Prop} {vs : List Value}, frzL l hp M K → Holds ρ hp M F w → DenL ρ l vs →
    ∃ l' hp' M' F', K l' hp' M' ∧ hp'.length = hp.length ∧ Holds ρ hp' M' F' w ∧ Gr M F M' F' ∧ DenL ρ l' vs ∧ oneL l = oneL l'
  | [], hp, M, F, K, vs, h, H, hd => ⟨[], hp, M, F, h, rfl, H, Gr.refl M F, hd, rfl⟩
  | s :: r, hp, M, F, K, [], h, H, hd => by simp [DenL] at hd
  | s :: r, hp, M, F, K, v :: vs, h, H, hd => by
    simp only [DenL] at hd
    obtain ⟨s', hp1, M1, F1, h1, hl1, H1, hG1, hd1, ho1⟩ := frz1_sound h H hd.1
    obtain ⟨l', hp2, M2, F2, h2, hl2, H2, hG2, hd2, ho2⟩ := frzL_sound h1 H1 hd.2
    exact ⟨s' :: l', hp2, M2, F2, h2, hl2.trans hl1, H2, hG1.trans hG2, by simp only [DenL]; exact ⟨hd1, hd2⟩, by simp only [oneL, ho1, ho2]⟩

theorem vStore_sound {P : Program} {m : Nat} {x y : SV} {hp : List Ent} {M F : HL} {K : List Ent → HL → Prop} {ρ : Nat → Loc} {w : World} {p v : Value} (h : vStore m x y hp M K) (H : Holds ρ hp M F w) (hp' : Den ρ x p) (hv : Den ρ y v) :
    ∃ a hp' M' F' w', p = .pointer (some a) ∧ v.cells.size = m ∧ (storeCells a v.cells.toList).run P w = .ok () w' ∧ K hp' M' ∧ hp'.length = hp.length ∧ Holds ρ hp' M' F' w' ∧ Gr M F M' F' ∧ Same w w' := by
  unfold vStore at h
  have h0 := flat_iff h
  clear h
  obtain ⟨l, h, hfl⟩ := h0
  split at h
  · rename_i _ _ hone
    obtain ⟨hd, hoc⟩ := den_flat hv hfl hone
    obtain ⟨l', hp1, M1, F1, h1, hl1, H1, hG1, hd1, ho1⟩ := frzL_sound h H hd
    obtain ⟨a, hp2, w', h2, h3, h4, h5, h6, h7, h8⟩ := vStore0_sound (P := P) h1 H1 hp' (fun _ => ⟨hd1, hoc⟩)
    exact ⟨a, hp2, M1, F1, w', h2, h3, h4, h5, h6.trans hl1, h7, hG1, h8⟩
  · obtain ⟨a, hp2, w', h2, h3, h4, h5, h6, h7, h8⟩ := vStore0_sound (P := P) h H hp' (den_flat hv hfl)
    exact ⟨a, hp2, M, F, w', h2, h3, h4, h5, h6, h7, Gr.refl M F, h8⟩
end Go.Vc
