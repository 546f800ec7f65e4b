/-
  Symbolic execution, part D: reads and writes are sound.
-/
import Derived.Test.YtkfkoldaeplckaaDoorVcc
set_option linter.unusedSimpArgs false
set_option linter.unusedVariables false

namespace Go.Vc

theorem den_vals {ρ : Nat → Loc} {s : SV} {y : Value} (h : Den ρ s y) (h1 : s.one = true) : y.oneCell' = true := by
  cases s <;> simp only [Den, SV.one] at h h1
  case v x => subst h; exact h1
  case ptr => obtain ⟨_, _, _, _, rfl⟩ := h; rfl
  case slc => obtain ⟨_, _, rfl, _⟩ := h; rfl
  case emp => obtain ⟨_, rfl⟩ := h; rfl
  case fn => obtain ⟨_, _, rfl, _⟩ := h; rfl
  case ifc => obtain ⟨_, rfl, _⟩ := h; rfl
  case rsl => obtain ⟨rfl, _, _, _, rfl, _⟩ := h; rfl
  case rpt => obtain ⟨_, _, _, _, rfl⟩ := h; rfl
  case slx => obtain ⟨_, _, _, _, rfl, _⟩ := h; rfl
  case via => subst h; exact h1
  all_goals cases h1

theorem ev_den {ρ : Nat → Loc} {tm : List SV} {a : Act} (hD : DenL ρ tm a.tmps.toList) (x : Operand) : Den ρ (ev tm (carg x)) (a.eval x) := by
  cases x with
  | tmp n =>
    simp only [carg, ev, Act.eval]
    cases h : tm[n]? with
    | none => rw [sget_none h]; simp [Den]
    | some s =>
      obtain ⟨v, h1, h2⟩ := hD.get h
      rw [sget_some h]
      have : a.tmps.getD n undef = v := by
        simp at h1
        simp [h1]
      rw [this]; exact h2
  | const v => exact den_ofV ρ v
  | global g => simp [carg, ev, Act.eval, Den]
  | func f => exact ⟨[], [], rfl, by simp [DenL], by simp [DenL]⟩

theorem cell_in {w : World} {b off : Nat} {cs : Array Value} {e : TypeId} {fr : Nat × Nat} (h : w.heap[b]? = some (.cells cs e fr)) : w.cell? ⟨b, off, none⟩ = cs[off]? := by
  simp [World.cell?, h]

theorem mcell_cell {ρ : Nat → Loc} {hp : List Ent} {M F : HL} {w : World} (H : Holds ρ hp M F w) {a : Addr} {y : Value} (h : mcell M a = some y) : w.cell? a = some y := by
  unfold mcell at h
  split at h
  · rename_i c e fr hm
    have := H.frm _ _ (H.sub _ _ hm)
    split at h
    · cases h
    · rename_i hs
      simp [World.cell?, this, hs, h]
  · cases h

theorem readCK_spec {k : CK} {x : Value} {K : SV → Prop} (h : readCK k x K) (hf : k.fits x) : ∃ sv, K sv ∧ ∀ ρ, Den ρ sv x := by
  cases k with
  | int k => obtain ⟨n, rfl⟩ := hf; exact ⟨_, h, fun _ => rfl⟩
  | bool => obtain ⟨n, rfl⟩ := hf; exact ⟨_, h, fun _ => rfl⟩
  | raw => exact ⟨_, h x rfl hf, fun _ => rfl⟩
  | sl => exact ⟨_, h, fun _ => ⟨rfl, hf⟩⟩

theorem readN_spec {rows : List (List Value)} {i : Nat} : ∀ (n : Nat) (ck : List CK) (f : Nat) (K : List SV → Prop), readN rows i ck f n K →
    (∀ j k, j < n → ck[j]? = some k → k.fits (cellAt rows i (f + j))) → n ≤ ck.length ∧ ∃ l, K l ∧ ∀ ρ, DenL ρ l ((List.range n).map fun j => cellAt rows i (f + j))
  | 0, ck, f, K, h, _ => ⟨Nat.zero_le _, [], by simpa [readN] using h, fun _ => by simp [DenL]⟩
  | n + 1, [], f, K, h, _ => by simp [readN] at h
  | n + 1, k :: r, f, K, h, hall => by
    simp only [readN] at h
    obtain ⟨sv, h1, hsv⟩ := readCK_spec h (hall 0 k (by omega) rfl)
    obtain ⟨h2, l, h3, hl⟩ := readN_spec n r (f + 1) _ h1 (fun j k hj hk => by
      have := hall (j + 1) k (by omega) (by simpa using hk)
      rwa [show f + 1 + j = f + (j + 1) by omega])
    refine ⟨by simpa using h2, _, h3, fun ρ => ?_⟩
    rw [List.range_succ_eq_map, List.map_cons, List.map_map]
    have e : (fun j => cellAt rows i (f + j)) ∘ Nat.succ = fun j => cellAt rows i (f + 1 + j) := by
      funext j
      simp [Function.comp, show f + 1 + j = f + (j + 1) by omega]
    rw [e]
    simp only [DenL]
    exact ⟨hsv ρ, hl ρ⟩

theorem row_cell {ρ : Nat → Loc} {hp : List Ent} {M F : HL} {w : World} (H : Holds ρ hp M F w) {n : Nat} {own : Bool} {e : TypeId} {ck : List CK} {rows : List (List Value)}
    (he : hp[n]? = some (.row own e ck rows)) {b base cap : Nat} (hρ : ρ n = some (b, base, cap)) {i : Nat} (hi : i < rows.length) {f : Nat} {k : CK} (hf : ck[f]? = some k) :
    w.cell? ⟨b, base + (i * ck.length + f), none⟩ = some (cellAt rows i f) ∧ k.fits (cellAt rows i f) := by
  have h := H.ent n _ he
  simp only [EntOK, hρ] at h
  obtain ⟨_, cur, fr, h1, h2, h3⟩ := h
  obtain ⟨r, hr⟩ : ∃ r, rows[i]? = some r := ⟨_, List.getElem?_eq_getElem hi⟩
  obtain ⟨h4, h5⟩ := h3 i r hr
  have hfl : f < ck.length := (List.getElem?_eq_some_iff.1 hf).1
  obtain ⟨x, hx⟩ : ∃ x, r[f]? = some x := ⟨_, List.getElem?_eq_getElem (by omega)⟩
  have hc : cellAt rows i f = x := by simp [cellAt, List.getD, hr, hx]
  obtain ⟨h6, h7⟩ := h5 f k x hf hx
  have hblk : ∃ fr', w.heap[b]? = some (.cells cur e fr') := by
    cases own with
    | true => exact ⟨_, (by simpa using h1 : _ ∧ _).1⟩
    | false => exact ⟨fr, H.frm _ _ (H.sub _ _ (by simpa using h1))⟩
  obtain ⟨fr', hb⟩ := hblk
  rw [cell_in hb, hc]
  exact ⟨h6, h7⟩

/-- The cells of a slice that lies in what stays. -/
theorem RowsIn.cells' {M : HL} {w : World} (H : ∀ b o, M b = some o → w.heap[b]? = some o) {e : TypeId} {ck : List CK} {y : Value} {rows : List (List Value)} (hR : RowsIn M e ck y rows) {a : Addr} {n c : Nat} (hy : y = .slice (some a) n c) {i : Nat} (hi : i < rows.length) :
    ∃ b base, a = ⟨b, base, none⟩ ∧ ∀ f k, ck[f]? = some k → w.cell? ⟨b, base + (i * ck.length + f), none⟩ = some (cellAt rows i f) ∧ k.fits (cellAt rows i f) := by
  obtain ⟨h0, ⟨rfl, _⟩ | ⟨b, base, c', cur, fr, h1, h2, h3, h4⟩⟩ := hR
  · simp at hi
  · rw [hy] at h1
    cases h1
    refine ⟨b, base, rfl, fun f k hf => ?_⟩
    obtain ⟨r, hr⟩ : ∃ r, rows[i]? = some r := ⟨_, List.getElem?_eq_getElem hi⟩
    obtain ⟨h5, h6⟩ := h4 i r hr
    have hfl : f < ck.length := (List.getElem?_eq_some_iff.1 hf).1
    obtain ⟨x, hx⟩ : ∃ x, r[f]? = some x := ⟨_, List.getElem?_eq_getElem (by omega)⟩
    have hc : cellAt rows i f = x := by simp [cellAt, List.getD, hr, hx]
    obtain ⟨h7, h8⟩ := h6 f k x hf hx
    rw [hc, cell_in (H _ _ h3)]
    exact ⟨h7, h8⟩
theorem RowsInE.spec {ρ : Nat → Loc} {hp : List Ent} {M F : HL} {w : World} (H : Holds ρ hp M F w) {e : TypeId} {ck : List CK} {y : Value} {rows : List (List Value)} (h : RowsInE M e ck y rows hp) : ∃ N, RowsIn N e ck y rows ∧ ∀ b o, N b = some o → w.heap[b]? = some o := by
  have key : ∀ l : List Ent, (∀ o N, Ent.sub o N ∈ l → ∀ b x, N b = some x → w.heap[b]? = some x) → RowsInE M e ck y rows l → ∃ N, RowsIn N e ck y rows ∧ ∀ b o, N b = some o → w.heap[b]? = some o := by
    intro l
    induction l with
    | nil => intro _ h; exact ⟨M, h, fun b o hb => H.frm _ _ (H.sub _ _ hb)⟩
    | cons a r ih =>
      intro hall h
      have hall' := fun o N hm => hall o N (List.mem_cons_of_mem _ hm)
      cases a with
      | sub o N =>
        rcases h with h | h
        · exact ⟨N, h, hall o N (by simp)⟩
        · exact ih hall' h
      | gone => exact ih hall' h
      | cells => exact ih hall' h
      | row => exact ih hall' h
      | rcells => exact ih hall' h
  refine key hp (fun o N hm b x hb => ?_) h
  obtain ⟨n, hn⟩ := List.getElem?_of_mem hm
  have := (H.ent n _ hn b x hb).2
  cases o with
  | true => exact this
  | false => exact H.frm _ _ (H.sub _ _ this)
/-- The cells of a slice that lies in what stays, or in a part of one's own. -/
theorem RowsInE.cells {ρ : Nat → Loc} {hp : List Ent} {M F : HL} {w : World} (H : Holds ρ hp M F w) {e : TypeId} {ck : List CK} {y : Value} {rows : List (List Value)} (hR : RowsInE M e ck y rows hp) {a : Addr} {n c : Nat} (hy : y = .slice (some a) n c) {i : Nat} (hi : i < rows.length) :
    ∃ b base, a = ⟨b, base, none⟩ ∧ ∀ f k, ck[f]? = some k → w.cell? ⟨b, base + (i * ck.length + f), none⟩ = some (cellAt rows i f) ∧ k.fits (cellAt rows i f) := by
  obtain ⟨N, hN, hw⟩ := RowsInE.spec H hR
  exact RowsIn.cells' hw hN hy hi

/-- What a load finds. -/
def Finds (s : Option Nat) (w : World) (a : Addr) (y : Value) : Prop :=
  match s with
  | none => w.cell? a = some y
  | some m => ∃ cs : List Value, y = .agg cs.toArray ∧ cs.length = m ∧ ∀ j v, cs[j]? = some v → w.cell? (a.add j) = some v

theorem add_lit (b o j : Nat) : (⟨b, o, none⟩ : Addr).add j = ⟨b, o + j, none⟩ := by unfold Addr.add; split <;> simp_all

theorem vLoadC_sound {s : Option Nat} {vs : List SV} {wd i f b : Nat} {K : SV → Prop} {ρ : Nat → Loc} {w : World} {cs : Array Value} {e : TypeId} {fr : Nat × Nat} (h : vLoadC vs wd f s K) (h2 : w.heap[b]? = some (.cells cs e fr)) (h3 : DenL ρ vs cs.toList) :
    ∃ a y sv, Value.pointer (some ⟨b, 0 + (i * wd + f), none⟩) = .pointer (some a) ∧ Finds s w a y ∧ K sv ∧ Den ρ sv y := by
  unfold vLoadC at h
  split at h
  · split at h
    · rename_i y r hy
      rw [dropN_eq] at hy
      have hy' : vs[f]? = some y := by
        have := congrArg (fun l => l[0]?) hy
        simpa using this
      obtain ⟨u, hu, hdu⟩ := h3.get hy'
      refine ⟨_, u, y, rfl, ?_, h, hdu⟩
      simp only [Finds, Nat.mul_zero, Nat.zero_add]
      rw [cell_in h2]
      simpa using hu
    · exact h.elim
  · rename_i m
    rw [takeN_iff, dropN_eq] at h
    obtain ⟨hm, hK⟩ := h
    refine ⟨_, .agg ((cs.toList.drop f).take m).toArray, _, rfl, ⟨(cs.toList.drop f).take m, rfl, ?_, ?_⟩, hK, ⟨_, rfl, (h3.drop f).take m⟩⟩
    · have := (h3.drop f).length
      rw [List.length_take, ← this]; omega
    · intro j u hj
      rw [add_lit, cell_in h2]
      rw [List.getElem?_take] at hj
      split at hj
      · simp only [Nat.mul_zero, Nat.zero_add]
        simpa using hj
      · cases hj
  · exact h.elim

theorem vLoad_sound {s : Option Nat} {x : SV} {hp : List Ent} {M F : HL} {K : SV → Prop} {ρ : Nat → Loc} {w : World} {v : Value} (h : vLoad s x hp M K) (H : Holds ρ hp M F w) (hd : Den ρ x v) :
    ∃ a y sv, v = .pointer (some a) ∧ Finds s w a y ∧ K sv ∧ Den ρ sv y := by
  unfold vLoad at h
  split at h
  · rename_i n wd i f
    simp only [Den] at hd
    obtain ⟨b, base, cap, hρ, rfl⟩ := hd
    split at h
    · rename_i e vs he
      have he := eget_ne he (by simp)
      have hE := H.ent n _ he
      obtain ⟨b', cap', cs, h1, h2, h3⟩ := hE
      rw [hρ] at h1
      cases h1
      exact vLoadC_sound h h2 h3
    · rename_i e vs he
      have he := eget_ne he (by simp)
      have hE := H.ent n _ he
      obtain ⟨b', cap', cs, fr, h1, h2, h3⟩ := hE
      rw [hρ] at h1
      cases h1
      exact vLoadC_sound h (H.frm _ _ (H.sub _ _ h2)) h3
    · rename_i own e ck rows he
      have he := eget_ne he (by simp)
      split at h
      · rename_i hw
        rw [llen_eq] at hw
        have hw := Nat.eq_of_beq_eq_true hw
        subst hw
        obtain ⟨hi, h⟩ := h
        split at h
        · split at h
          · rename_i k r hk
            rw [dropN_eq] at hk
            have hk' : ck[f]? = some k := by
              have := congrArg (fun l => l[0]?) hk
              simpa using this
            obtain ⟨h1, h2⟩ := row_cell H he hρ hi hk'
            obtain ⟨sv, h3, hsv⟩ := readCK_spec h h2
            exact ⟨_, _, _, rfl, h1, h3, hsv ρ⟩
          · exact h.elim
        · rename_i m
          have hfit : ∀ j k, j < m → (dropN ck f)[j]? = some k → k.fits (cellAt rows i (f + j)) := fun j k _ hk => by
            rw [dropN_eq, List.getElem?_drop] at hk
            exact (row_cell H he hρ hi hk).2
          obtain ⟨h1, lsv, h2, hlsv⟩ := readN_spec m _ f _ h hfit
          rw [dropN_eq, List.length_drop] at h1
          refine ⟨_, .agg ((List.range m).map fun j => cellAt rows i (f + j)).toArray, _, rfl, ⟨_, rfl, by simp, ?_⟩, h2, ⟨_, rfl, hlsv ρ⟩⟩
          · intro j u hj
            simp only [List.getElem?_map] at hj
            by_cases hjm : j < m
            · rw [List.getElem?_range hjm] at hj
              simp at hj
              subst hj
              obtain ⟨k, hk⟩ : ∃ k, ck[f + j]? = some k := ⟨_, List.getElem?_eq_getElem (by omega)⟩
              rw [add_lit, show base + (i * ck.length + f) + j = base + (i * ck.length + (f + j)) by omega]
              exact (row_cell H he hρ hi hk).1
            · simp [List.getElem?_eq_none (show (List.range m).length ≤ j by simp; omega)] at hj
      · exact h.elim
    · exact h.elim
    · exact h.elim
  · rename_i a
    simp only [Den] at hd
    subst hd
    split at h
    · obtain ⟨y, h1, h2⟩ := h
      exact ⟨a, y, .v y, rfl, mcell_cell H h1, h2, rfl⟩
    · exact h.elim
  · rename_i y wd i f
    simp only [Den] at hd
    obtain ⟨a, n, c, hy, rfl⟩ := hd
    obtain ⟨e, ck, rows, hR, h⟩ := h
    split at h
    · rename_i hw
      rw [llen_eq] at hw
      have hw := Nat.eq_of_beq_eq_true hw
      subst hw
      obtain ⟨hi, h⟩ := h
      obtain ⟨b, base, rfl, hcell⟩ := RowsInE.cells H hR hy hi
      rw [add_lit]
      split at h
      · split at h
        · rename_i k r hk
          rw [dropN_eq] at hk
          have hk' : ck[f]? = some k := by
            have := congrArg (fun l => l[0]?) hk
            simpa using this
          obtain ⟨h1, h2⟩ := hcell f k hk'
          obtain ⟨sv, h3, hsv⟩ := readCK_spec h h2
          exact ⟨_, _, _, rfl, h1, h3, hsv ρ⟩
        · exact h.elim
      · rename_i m
        have hfit : ∀ j k, j < m → (dropN ck f)[j]? = some k → k.fits (cellAt rows i (f + j)) := fun j k _ hk => by
          rw [dropN_eq, List.getElem?_drop] at hk
          exact (hcell _ _ hk).2
        obtain ⟨h1, lsv, h2, hlsv⟩ := readN_spec m _ f _ h hfit
        rw [dropN_eq, List.length_drop] at h1
        refine ⟨_, .agg ((List.range m).map fun j => cellAt rows i (f + j)).toArray, _, rfl, ⟨_, rfl, by simp, ?_⟩, h2, ⟨_, rfl, hlsv ρ⟩⟩
        intro j u hj
        simp only [List.getElem?_map] at hj
        by_cases hjm : j < m
        · rw [List.getElem?_range hjm] at hj
          simp at hj
          subst hj
          obtain ⟨k, hk⟩ : ∃ k, ck[f + j]? = some k := ⟨_, List.getElem?_eq_getElem (by omega)⟩
          rw [add_lit, show base + (i * ck.length + f) + j = base + (i * ck.length + (f + j)) by omega]
          exact (hcell _ _ hk).1
        · simp [List.getElem?_eq_none (show (List.range m).length ≤ j by simp; omega)] at hj
    · exact h.elim
  · exact h.elim

/-- A block of one's own is laid anew. -/
theorem Holds.setRow {ρ : Nat → Loc} {hp : List Ent} {M F : HL} {w : World} (H : Holds ρ hp M F w) {n : Nat} {e e' : Ent} (he : hp[n]? = some e) (ho : e.own1 = true) {b base cap : Nat} (hρ : ρ n = some (b, base, cap))
    {cs' : Array Value} (hE : EntOK ρ M (w.setRow b cs') n e') (ho' : e'.own1 = true := by rfl) : Holds ρ (hp.set n e') M F (w.setRow b cs') := by
  have hn : n < hp.length := (List.getElem?_eq_some_iff.1 he).1
  have hown : ∀ m c, owns ρ (hp.set n e') m c → owns ρ hp m c := by
    rintro m c ⟨e1, ba, ca, h1, h2, h3⟩
    by_cases hm : m = n
    · subst hm
      rw [List.getElem?_set_self hn] at h1
      cases h1
      exact ⟨e, ba, ca, he, own1_own ho, (own1_lies ho).2 ((own1_lies ho').1 h3)⟩
    · rw [List.getElem?_set_ne (by omega)] at h1
      exact ⟨e1, ba, ca, h1, h2, h3⟩
  have hnb : owns ρ hp n b := ⟨e, base, cap, he, own1_own ho, (own1_lies ho).2 hρ⟩
  refine ⟨fun m e1 h1 => ?_, fun m k c h1 h2 => H.sep m k c (hown _ _ h1) (hown _ _ h2), fun m c h1 => H.out m c (hown _ _ h1), fun k o hk => ?_, H.sub, fun m hm => H.dom m (by simpa using hm)⟩
  · by_cases hm : m = n
    · subst hm
      rw [List.getElem?_set_self hn] at h1
      cases h1
      exact hE
    · rw [List.getElem?_set_ne (by omega)] at h1
      refine (H.ent m e1 h1).keep (fun _ _ h => h) rfl (FLe.refl M) fun c ba ca h2 h3 => ?_
      refine setRow_other w b c cs' fun hc => hm ?_
      subst hc
      exact H.sep m n c ⟨e1, ba, ca, h1, h2, h3⟩ hnb
  · rw [setRow_other w b k cs' ?_]
    · exact H.frm k o hk
    · intro hc
      subst hc
      rw [H.out n k hnb] at hk
      cases hk

/-- A block of a part of one's own is laid anew. -/
theorem Holds.subSet {ρ : Nat → Loc} {hp : List Ent} {M F : HL} {w w' : World} (H : Holds ρ hp M F w) {n : Nat} {N : HL} (he : hp[n]? = some (.sub true N)) {b : Nat} {o o' : Obj} (hb : N b = some o) (ho' : Obj.free o')
    (h1 : w'.heap[b]? = some o') (h2 : ∀ k, k ≠ b → w'.heap[k]? = w.heap[k]?) : Holds ρ (hp.set n (.sub true (hput N b (some o')))) M F w' := by
  have hn : n < hp.length := (List.getElem?_eq_some_iff.1 he).1
  have hown : ∀ m c, owns ρ (hp.set n (.sub true (hput N b (some o')))) m c → owns ρ hp m c := by
    rintro m c ⟨e1, ba, ca, h1, h2, h3⟩
    by_cases hm : m = n
    · subst hm
      rw [List.getElem?_set_self hn] at h1
      cases h1
      obtain ⟨x, hx⟩ := h3
      by_cases hc : c = b
      · subst hc; exact ⟨_, 0, 0, he, rfl, o, hb⟩
      · rw [hput_ne _ _ hc] at hx; exact ⟨_, 0, 0, he, rfl, x, hx⟩
    · rw [List.getElem?_set_ne (by omega)] at h1
      exact ⟨e1, ba, ca, h1, h2, h3⟩
  have hnb : owns ρ hp n b := ⟨_, 0, 0, he, rfl, o, hb⟩
  refine ⟨fun m e1 h3 => ?_, fun m k c h1 h2 => H.sep m k c (hown _ _ h1) (hown _ _ h2), fun m c h1 => H.out m c (hown _ _ h1), fun k o hk => ?_, H.sub, fun m hm => H.dom m (by simpa using hm)⟩
  · by_cases hm : m = n
    · subst hm
      rw [List.getElem?_set_self hn] at h3
      cases h3
      intro c x hx
      by_cases hc : c = b
      · subst hc
        rw [hput_self] at hx
        cases hx
        exact ⟨ho', h1⟩
      · rw [hput_ne _ _ hc] at hx
        have := H.ent _ _ he c x hx
        exact ⟨this.1, (h2 c hc).trans this.2⟩
    · rw [List.getElem?_set_ne (by omega)] at h3
      refine (H.ent m e1 h3).keep (fun _ _ h => h) rfl (FLe.refl M) fun c ba ca h4 h5 => ?_
      refine h2 c fun hc => hm ?_
      subst hc
      exact H.sep m n c ⟨e1, ba, ca, h3, h4, h5⟩ hnb
  · rw [h2 k ?_]
    · exact H.frm k o hk
    · intro hc
      subst hc
      rw [H.out n k hnb] at hk
      cases hk

/-- A row goes into a part of one's own. -/
theorem Holds.subIn {ρ : Nat → Loc} {hp : List Ent} {M F : HL} {w : World} (H : Holds ρ hp M F w) {a n : Nat} {N : HL} {e : TypeId} {ck : List CK} {rows : List (List Value)} (ha : hp[a]? = some (.row true e ck rows)) (he : hp[n]? = some (.sub true N))
    {b base cap : Nat} (hρ : ρ a = some (b, base, cap)) : ∃ cur, N b = none ∧ cur.size = base + cap * ck.length ∧ cap ≤ maxLen ∧ rows.length ≤ cap ∧ RowAt ck cur base rows ∧
      Holds ρ ((hp.set a .gone).set n (.sub true (hput N b (some (.cells cur e (0, 0)))))) M F w := by
  have hE := H.ent a _ ha
  simp only [EntOK, hρ, if_true] at hE
  obtain ⟨_, cur, fr, ⟨h1, hsz, hcm⟩, h2, h3⟩ := hE
  have hn : n < hp.length := (List.getElem?_eq_some_iff.1 he).1
  have han : a ≠ n := fun h => by subst h; rw [ha] at he; cases he
  have hab : owns ρ hp a b := ⟨_, base, cap, ha, rfl, hρ⟩
  have hNb : N b = none := by
    cases hx : N b with
    | none => rfl
    | some o => exact absurd (H.sep a n b hab ⟨_, 0, 0, he, rfl, o, hx⟩) han
  have hown : ∀ m c, owns ρ ((hp.set a .gone).set n (.sub true (hput N b (some (.cells cur e (0, 0)))))) m c → (m = n ∧ c = b) ∨ (m ≠ a ∧ owns ρ hp m c) := by
    rintro m c ⟨e1, ba, ca, h4, h5, h6⟩
    by_cases hm : n = m
    · subst hm
      rw [List.getElem?_set_self (by simpa using hn)] at h4
      cases h4
      obtain ⟨x, hx⟩ := h6
      by_cases hc : c = b
      · exact .inl ⟨rfl, hc⟩
      · rw [hput_ne _ _ hc] at hx; exact .inr ⟨fun h => han h.symm, _, 0, 0, he, rfl, x, hx⟩
    · rw [List.getElem?_set_ne hm] at h4
      by_cases hma : a = m
      · subst hma
        rw [List.getElem?_set_self (List.getElem?_eq_some_iff.1 ha).1] at h4
        cases h4; cases h5
      · rw [List.getElem?_set_ne hma] at h4
        exact .inr ⟨fun h => hma h.symm, e1, ba, ca, h4, h5, h6⟩
  refine ⟨cur, hNb, hsz, hcm, h2, h3, ⟨fun m e1 h4 => ?_, fun m k c h4 h5 => ?_, fun m c h4 => ?_, H.frm, H.sub, fun m hm => H.dom m (by simpa using hm)⟩⟩
  · by_cases hm : n = m
    · subst hm
      rw [List.getElem?_set_self (by simpa using hn)] at h4
      cases h4
      intro c x hx
      by_cases hc : c = b
      · subst hc
        rw [hput_self] at hx
        cases hx
        exact ⟨rfl, h1⟩
      · rw [hput_ne _ _ hc] at hx
        exact H.ent _ _ he c x hx
    · rw [List.getElem?_set_ne hm] at h4
      by_cases hma : a = m
      · subst hma
        rw [List.getElem?_set_self (List.getElem?_eq_some_iff.1 ha).1] at h4
        cases h4
        trivial
      · rw [List.getElem?_set_ne hma] at h4
        exact H.ent m e1 h4
  · rcases hown m c h4 with ⟨hm, hc⟩ | ⟨hm, h6⟩ <;> rcases hown k c h5 with ⟨hk, hc'⟩ | ⟨hk, h7⟩
    · exact hm.trans hk.symm
    · subst hc; exact absurd (H.sep _ _ _ h7 hab) hk
    · subst hc'; exact absurd (H.sep _ _ _ h6 hab) hm
    · exact H.sep m k c h6 h7
  · rcases hown m c h4 with ⟨hm, hc⟩ | ⟨hm, h4⟩
    · subst hc; exact H.out a c hab
    · exact H.out m c h4

theorem Same.setRow (w : World) (b : Nat) (cs : Array Value) : Same w (w.setRow b cs) := ⟨rfl, rfl, rfl, by simp [World.setRow]⟩

theorem flat_iff {y : SV} {K : List SV → Prop} (h : flat y K) : ∃ l, K l ∧ (y = .agg l ∨ (l = [y] ∧ (∀ l', y ≠ .agg l') ∧ (∀ l', y ≠ .tup l') ∧ y ≠ .any)) := by
  cases y <;> simp only [flat] at h
  case agg l => exact ⟨l, h, .inl rfl⟩
  all_goals exact ⟨_, h, .inr ⟨rfl, by simp, by simp, by simp⟩⟩

theorem oneL_spec : ∀ {l : List SV}, oneL l = true → ∀ s ∈ l, s.one = true
  | [], _, s, hs => by cases hs
  | a :: r, h, s, hs => by
    simp only [oneL] at h
    cases ha : a.one with
    | true =>
      simp only [ha] at h
      rcases List.mem_cons.1 hs with rfl | hs
      · exact ha
      · exact oneL_spec h s hs
    | false => simp [ha] at h

/-- The cells of a value whose symbolic cells are l. -/
theorem den_flat {ρ : Nat → Loc} {y : SV} {v : Value} {l : List SV} (hd : Den ρ y v) (h : y = .agg l ∨ (l = [y] ∧ (∀ l', y ≠ .agg l') ∧ (∀ l', y ≠ .tup l') ∧ y ≠ .any)) (h1 : oneL l = true) :
    DenL ρ l v.cells.toList ∧ ∀ x ∈ v.cells.toList, x.oneCell' = true := by
  have key : DenL ρ l v.cells.toList := by
    rcases h with rfl | ⟨rfl, h2, h3, h4⟩
    · simp only [Den] at hd
      obtain ⟨cs, rfl, hd⟩ := hd
      simpa [Value.cells] using hd
    · have : v.oneCell' = true := den_vals hd (oneL_spec h1 y (by simp))
      have hc : v.cells = #[v] := by cases v <;> first | rfl | cases this
      rw [hc]
      simp only [DenL]
      exact ⟨hd, trivial⟩
  refine ⟨key, fun x hx => ?_⟩
  obtain ⟨j, hj⟩ := List.getElem?_of_mem hx
  have hl := key.length
  have hjl : j < l.length := by rw [hl]; exact (List.getElem?_eq_some_iff.1 hj).1
  obtain ⟨u, hu, hdu⟩ := key.get (List.getElem?_eq_getElem hjl)
  rw [hj] at hu
  cases hu
  exact den_vals hdu (oneL_spec h1 _ (List.getElem_mem hjl))

theorem valsOf_spec {ρ : Nat → Loc} : ∀ {ck : List CK} {l : List SV} {K : List Value → Prop}, valsOf ck l K → ∃ vs, K vs ∧ l.length = vs.length ∧ (∀ us, DenL ρ l us → us = vs ∧ (∀ (j : Nat) (k : CK) (x : Value), ck[j]? = some k → vs[j]? = some x → k.fits x)) ∧ oneL l = true ∧ vs.length ≤ ck.length
  | ck, [], K, h => ⟨[], by simpa [valsOf] using h, rfl, fun us hu => by cases us with
    | nil => exact ⟨rfl, by simp⟩
    | cons => simp [DenL] at hu, rfl, by simp⟩
  | [], s :: l, K, h => by cases s <;> simp [valsOf] at h
  | k :: r, s :: l, K, h => by
    have go : ∀ x : Value, (∀ u, Den ρ s u → u = x ∧ k.fits x) → s.one = true → valsOf r l (fun vs => K (x :: vs)) → ∃ vs, K vs ∧ (s :: l).length = vs.length ∧
        (∀ us, DenL ρ (s :: l) us → us = vs ∧ (∀ (j : Nat) (k' : CK) (x : Value), (k :: r)[j]? = some k' → vs[j]? = some x → k'.fits x)) ∧ oneL (s :: l) = true ∧ vs.length ≤ (k :: r).length := by
      intro x hs ho h
      obtain ⟨vs, h1, h2, h3, h4, h5⟩ := valsOf_spec (ρ := ρ) h
      refine ⟨x :: vs, h1, by simp [h2], fun us hu => ?_, by simp only [oneL, ho, h4], by simpa using h5⟩
      cases us with
      | nil => simp [DenL] at hu
      | cons u us =>
        simp only [DenL] at hu
        obtain ⟨rfl, hf⟩ := hs u hu.1
        obtain ⟨rfl, hall⟩ := h3 us hu.2
        refine ⟨rfl, fun j k' x' hk hx => ?_⟩
        cases j with
        | zero => simp at hk hx; subst hk; subst hx; exact hf
        | succ j => exact hall j k' x' (by simpa using hk) (by simpa using hx)
    unfold valsOf at h
    split at h
    · rename_i h0; cases h0
    · rename_i k1 r1 k2 a l1 h0 h1
      cases h0; cases h1
      split at h
      · rename_i hk
        have := kEq_eq hk
        subst this
        exact go _ (fun u hu => ⟨by simpa [Den] using hu.symm, ⟨a, rfl⟩⟩) rfl h
      · exact h.elim
    · rename_i r1 a l1 h0 h1
      cases h0; cases h1
      exact go _ (fun u hu => ⟨by simpa [Den] using hu.symm, ⟨a, rfl⟩⟩) rfl h
    · rename_i r1 x l1 h0 h1
      cases h0; cases h1
      split at h
      · rename_i hx
        exact go _ (fun u hu => ⟨by simpa [Den] using hu.symm, hx⟩) hx h
      · exact h.elim
    · rename_i r1 y l1 h0 h1
      cases h0; cases h1
      exact go _ (fun u hu => by simp only [Den] at hu; exact ⟨hu.1, hu.2⟩) rfl h
    · rename_i r1 l1 h0 h1
      cases h0; cases h1
      exact go _ (fun u hu => ⟨by simpa [Den] using hu.symm, ⟨none, 0, 0, rfl, Nat.le_refl _, fun _ => rfl⟩⟩) rfl h
    · exact h.elim

theorem take_over {cs : List Value} {f : Nat} {l : List Value} (hl : f + l.length ≤ cs.length) (j : Nat) :
    (cs.take f ++ l ++ cs.drop (f + l.length))[j]? = if f ≤ j ∧ j < f + l.length then l[j - f]? else cs[j]? := by
  by_cases h1 : j < f
  · rw [if_neg (by omega), List.append_assoc, List.getElem?_append_left (by simp; omega), List.getElem?_take_of_lt h1]
  · by_cases h2 : j < f + l.length
    · rw [if_pos ⟨by omega, h2⟩, List.append_assoc, List.getElem?_append_right (by simp; omega), List.getElem?_append_left (by simp; omega)]
      congr 1
      simp; omega
    · rw [if_neg (by omega), List.getElem?_append_right (by simp; omega), List.getElem?_drop]
      congr 1
      simp; omega

theorem take_over' {α : Type} {cs : List α} {f : Nat} {l : List α} (hl : f + l.length ≤ cs.length) (j : Nat) :
    (cs.take f ++ l ++ cs.drop (f + l.length))[j]? = if f ≤ j ∧ j < f + l.length then l[j - f]? else cs[j]? := by
  by_cases h1 : j < f
  · rw [if_neg (by omega), List.append_assoc, List.getElem?_append_left (by simp; omega), List.getElem?_take_of_lt h1]
  · by_cases h2 : j < f + l.length
    · rw [if_pos ⟨by omega, h2⟩, List.append_assoc, List.getElem?_append_right (by simp; omega), List.getElem?_append_left (by simp; omega)]
      congr 1
      simp; omega
    · rw [if_neg (by omega), List.getElem?_append_right (by simp; omega), List.getElem?_drop]
      congr 1
      simp; omega
theorem vStore0_sound {P : Program} {m : Nat} {x : SV} {l : List SV} {hp : List Ent} {M F : HL} {K : List Ent → Prop} {ρ : Nat → Loc} {w : World} {p v : Value} (h : vStore0 m x l hp K) (H : Holds ρ hp M F w) (hp' : Den ρ x p)
    (hv : oneL l = true → DenL ρ l v.cells.toList ∧ ∀ x ∈ v.cells.toList, x.oneCell' = true) :
    ∃ a hp' w', p = .pointer (some a) ∧ v.cells.size = m ∧ (storeCells a v.cells.toList).run P w = .ok () w' ∧ K hp' ∧ hp'.length = hp.length ∧ Holds ρ hp' M F w' ∧ Same w w' := by
  unfold vStore0 at h
  split at h
  case h_2 => exact h.elim
  rename_i hlen
  rw [llen_eq] at hlen
  have hlen := Nat.eq_of_beq_eq_true hlen
  split at h
  case h_3 => exact h.elim
  case h_2 =>
    rename_i y wd i f
    simp only [Den] at hp'
    obtain ⟨a, len, c, rfl, rfl⟩ := hp'
    obtain ⟨n, N, e, ck, rows, he, hR, hi, h⟩ := h
    split at h
    case h_2 => exact h.elim
    rename_i hw hfm
    rw [llen_eq] at hw hfm
    have hfm := Nat.le_of_ble_eq_true hfm
    have hw := Nat.eq_of_beq_eq_true hw
    subst hw
    obtain ⟨vals, h, hl, hrig, hone, hvl⟩ := valsOf_spec (ρ := ρ) h
    rw [dropN_eq, List.length_drop] at hvl
    obtain ⟨hd, hoc⟩ := hv hone
    obtain ⟨hcells, hfits⟩ := hrig _ hd
    obtain ⟨h0, ⟨rfl, _⟩ | ⟨b, base, c', cur, fr, hy, hlc, hN, hrow⟩⟩ := hR
    · simp at hi
    cases hy
    obtain ⟨hfree, hb⟩ := H.ent n _ he b _ hN
    simp only [if_true] at hb
    have hfr : fr = (0, 0) := hfree
    subst hfr
    have hvlen : vals.length = m := by rw [← hlen, hl]
    obtain ⟨r, hr⟩ : ∃ r, rows[i]? = some r := ⟨_, List.getElem?_eq_getElem hi⟩
    obtain ⟨hrlen, hrc⟩ := hrow i r hr
    have hbound : base + (i * ck.length + f) + vals.length ≤ cur.size := by
      rcases Nat.eq_zero_or_pos vals.length with hz | hz
      · have := hrc 0 ck[0] _ (List.getElem?_eq_getElem h0) (List.getElem?_eq_getElem (by omega))
        have hlt := (Array.getElem?_eq_some_iff.1 this.1).1
        rcases Nat.eq_zero_or_pos f with hf | hf
        · omega
        · have := hrc (f - 1) ck[f - 1] _ (List.getElem?_eq_getElem (by omega)) (List.getElem?_eq_getElem (by omega))
          have hlt := (Array.getElem?_eq_some_iff.1 this.1).1
          omega
      · have := hrc (f + vals.length - 1) ck[f + vals.length - 1] _ (List.getElem?_eq_getElem (by omega)) (List.getElem?_eq_getElem (by omega))
        have hlt := (Array.getElem?_eq_some_iff.1 this.1).1
        omega
    have hst := run_storeCells_at P b (base + (i * ck.length + f)) e v.cells.toList 0 cur w hb (by rw [hcells, Nat.add_zero]; exact hbound) hoc
    simp only [Nat.add_zero] at hst
    rw [hcells] at hst ⊢
    have hsz' : (cur.toList.take (base + (i * ck.length + f)) ++ vals ++ cur.toList.drop (base + (i * ck.length + f) + vals.length)).toArray.size = cur.size := by
      simp; omega
    have hrow' : RowAt ck (cur.toList.take (base + (i * ck.length + f)) ++ vals ++ cur.toList.drop (base + (i * ck.length + f) + vals.length)).toArray base (rows.set i (over (rows.getD i []) f vals)) := by
      intro i' r' hr'
      have hover : (over r f vals).length = ck.length := by simp [over]; omega
      have hi'l : i' < rows.length := by have := (List.getElem?_eq_some_iff.1 hr').1; simpa using this
      have hgd : rows.getD i [] = r := by simp [List.getD, hr]
      rw [hgd] at hr'
      by_cases hii : i' = i
      · subst hii
        rw [List.getElem?_set_self hi] at hr'
        cases hr'
        refine ⟨hover, fun f' k x hk hx => ?_⟩
        have hf' : f' < ck.length := (List.getElem?_eq_some_iff.1 hk).1
        unfold over at hx
        rw [take_over (by omega)] at hx
        simp only [List.getElem?_toArray]
        rw [take_over (by simpa using hbound)]
        split at hx
        · rename_i hin
          rw [if_pos (by omega), show base + (i' * ck.length + f') - (base + (i' * ck.length + f)) = f' - f by omega]
          refine ⟨hx, hfits (f' - f) k x ?_ hx⟩
          rw [dropN_eq, List.getElem?_drop, show f + (f' - f) = f' by omega]
          exact hk
        · rename_i hout
          rw [if_neg (by omega)]
          have := hrc f' k x hk hx
          simpa using this
      · rw [List.getElem?_set_ne (by omega)] at hr'
        obtain ⟨h4, h5⟩ := hrow i' r' hr'
        refine ⟨h4, fun f' k x hk hx => ?_⟩
        have hf' : f' < ck.length := (List.getElem?_eq_some_iff.1 hk).1
        obtain ⟨h6, h7⟩ := h5 f' k x hk hx
        refine ⟨?_, h7⟩
        simp only [List.getElem?_toArray]
        rw [take_over (by simpa using hbound), if_neg, ]
        · simpa using h6
        · intro ⟨ha, hb⟩
          rcases Nat.lt_or_ge i' i with hlt | hge
          · have : i' * ck.length + ck.length ≤ i * ck.length := by
              have h2 : (i' + 1) * ck.length ≤ i * ck.length := Nat.mul_le_mul_right _ (by omega)
              rwa [Nat.succ_mul] at h2
            omega
          · have : i * ck.length + ck.length ≤ i' * ck.length := by
              have h2 : (i + 1) * ck.length ≤ i' * ck.length := Nat.mul_le_mul_right _ (by omega)
              rwa [Nat.succ_mul] at h2
            omega
    have hcpos : 0 < c := by omega
    obtain ⟨c2, rfl⟩ : ∃ c2, c = c2 + 1 := ⟨c - 1, by omega⟩
    have hK := h (hput N b (some (.cells (cur.toList.take (base + (i * ck.length + f)) ++ vals ++ cur.toList.drop (base + (i * ck.length + f) + vals.length)).toArray e (0, 0))))
      (fun k hk => hput_ne _ _ fun hkb => hk (by rw [hkb]; rfl))
      ⟨h0, .inr ⟨b, base, c2 + 1, _, (0, 0), by rw [List.length_set], by simpa using hlc, hput_self _ _ _, hrow'⟩⟩
      (fun ho => by
        obtain ⟨_, ⟨hnil, _⟩ | ⟨b3, base3, c3, cap3, cur3, hy3, h3a, h3b, h3c, h3d, h3e, h3f, h3g⟩⟩ := ho
        · rw [hnil] at hi; simp at hi
        · cases hy3
          rw [hN] at h3d
          cases h3d
          exact ⟨h0, .inr ⟨b, base, c2 + 1, cap3, _, by rw [List.length_set], by simpa using hlc, h3b, h3c, hput_self _ _ _, by rw [hsz', h3e], h3f, hrow'⟩⟩)
    rw [eset_iff] at hK
    refine ⟨⟨b, base + (i * ck.length + f), none⟩, _, _, by rw [add_lit], ?_, hst, hK, by simp, ?_, Same.setRow _ _ _⟩
    · rw [← Array.length_toList, hcells, hvlen]
    · exact H.subSet he hN rfl (setRow_heap w b cur _ e _ hb) fun k hk => setRow_other w b k _ hk
  rename_i n wd i f
  simp only [Den] at hp'
  obtain ⟨b, base, cap, hρ, rfl⟩ := hp'
  split at h
  · rename_i e vs he
    have he := eget_ne he (by simp)
    obtain ⟨b', cap', cs, h1, h2, h3⟩ := H.ent n _ he
    rw [hρ] at h1
    cases h1
    split at h
    case h_2 => exact h.elim
    rename_i hone
    obtain ⟨hd, hoc⟩ := hv hone
    rw [overN_iff] at h
    obtain ⟨hfit, h⟩ := h
    rw [eset_iff] at h
    have hcl := h3.length
    have hdl := hd.length
    have hst := run_storeCells_at P b f e v.cells.toList 0 cs w h2 (by rw [← hdl]; simp at hcl ⊢; omega) hoc
    simp only [Nat.add_zero] at hst
    refine ⟨⟨b, 0 + (i * 0 + f), none⟩, _, _, rfl, ?_, (by simp only [Nat.mul_zero, Nat.zero_add]; exact hst), h, by simp, ?_, Same.setRow _ _ _⟩
    · rw [← hlen, hdl]; simp
    · refine H.setRow he rfl hρ ?_
      refine ⟨b, cap, _, hρ, setRow_heap w b cs _ e _ h2, ?_⟩
      rw [show (v.cells.toList).length = l.length from hdl.symm]
      simpa using ((h3.take f).append hd).append (h3.drop (f + l.length))
  · rename_i e ck rows he
    have he := eget_ne he (by simp)
    split at h
    case h_2 => exact h.elim
    rename_i hw hfm
    rw [llen_eq] at hw hfm
    have hfm := Nat.le_of_ble_eq_true hfm
    have hw := Nat.eq_of_beq_eq_true hw
    subst hw
    obtain ⟨hi, h⟩ := h
    obtain ⟨vals, h, hl, hrig, hone, hvl⟩ := valsOf_spec (ρ := ρ) h
    rw [eset_iff] at h
    rw [dropN_eq, List.length_drop] at hvl
    obtain ⟨hd, hoc⟩ := hv hone
    obtain ⟨hcells, hfits⟩ := hrig _ hd
    have hE := H.ent n _ he
    simp only [EntOK, hρ, if_true] at hE
    obtain ⟨h0, cur, fr, ⟨h1, hsz, hcap⟩, hrl, hrow⟩ := hE
    have hvlen : vals.length = m := by rw [← hlen, hl]
    obtain ⟨r, hr⟩ : ∃ r, rows[i]? = some r := ⟨_, List.getElem?_eq_getElem hi⟩
    obtain ⟨hrlen, hrc⟩ := hrow i r hr
    have hmul : ∀ j, j < cap → j * ck.length + ck.length ≤ cap * ck.length := fun j hj => by
      have h2 : (j + 1) * ck.length ≤ cap * ck.length := Nat.mul_le_mul_right _ (by omega)
      rwa [Nat.succ_mul] at h2
    have hbound : base + (i * ck.length + f) + vals.length ≤ cur.size := by
      have := hmul i (by omega)
      omega
    have hst := run_storeCells_at P b (base + (i * ck.length + f)) e v.cells.toList 0 cur w h1 (by rw [hcells, Nat.add_zero]; exact hbound) hoc
    simp only [Nat.add_zero] at hst
    rw [hcells] at hst ⊢
    refine ⟨⟨b, base + (i * ck.length + f), none⟩, _, _, rfl, ?_, hst, h, by simp, ?_, Same.setRow _ _ _⟩
    · rw [← Array.length_toList, hcells, hvlen]
    · refine H.setRow he rfl hρ ?_
      simp only [EntOK, hρ, if_true]
      have hsz' : (cur.toList.take (base + (i * ck.length + f)) ++ vals ++ cur.toList.drop (base + (i * ck.length + f) + vals.length)).toArray.size = cur.size := by
        simp; omega
      refine ⟨h0, _, (0, 0), ⟨setRow_heap w b cur _ e _ h1, by rw [hsz', hsz], hcap⟩, by simpa using hrl, ?_⟩
      intro i' r' hr'
      have hover : (over r f vals).length = ck.length := by simp [over]; omega
      have hi'l : i' < rows.length := by have := (List.getElem?_eq_some_iff.1 hr').1; simpa using this
      have hgd : rows.getD i [] = r := by simp [List.getD, hr]
      rw [hgd] at hr'
      by_cases hii : i' = i
      · subst hii
        rw [List.getElem?_set_self hi] at hr'
        cases hr'
        refine ⟨hover, fun f' k x hk hx => ?_⟩
        have hf' : f' < ck.length := (List.getElem?_eq_some_iff.1 hk).1
        unfold over at hx
        rw [take_over (by omega)] at hx
        simp only [List.getElem?_toArray]
        rw [take_over (by simpa using hbound)]
        split at hx
        · rename_i hin
          rw [if_pos (by omega), show base + (i' * ck.length + f') - (base + (i' * ck.length + f)) = f' - f by omega]
          refine ⟨hx, hfits (f' - f) k x ?_ hx⟩
          rw [dropN_eq, List.getElem?_drop, show f + (f' - f) = f' by omega]
          exact hk
        · rename_i hout
          rw [if_neg (by omega)]
          have := hrc f' k x hk hx
          simpa using this
      · rw [List.getElem?_set_ne (by omega)] at hr'
        obtain ⟨h4, h5⟩ := hrow i' r' hr'
        refine ⟨h4, fun f' k x hk hx => ?_⟩
        have hf' : f' < ck.length := (List.getElem?_eq_some_iff.1 hk).1
        obtain ⟨h6, h7⟩ := h5 f' k x hk hx
        refine ⟨?_, h7⟩
        simp only [List.getElem?_toArray]
        rw [take_over (by simpa using hbound), if_neg, ]
        · simpa using h6
        · intro ⟨ha, hb⟩
          rcases Nat.lt_or_ge i' i with hlt | hge
          · have : i' * ck.length + ck.length ≤ i * ck.length := by
              have h2 : (i' + 1) * ck.length ≤ i * ck.length := Nat.mul_le_mul_right _ (by omega)
              rwa [Nat.succ_mul] at h2
            omega
          · have : i * ck.length + ck.length ≤ i' * ck.length := by
              have h2 : (i + 1) * ck.length ≤ i' * ck.length := Nat.mul_le_mul_right _ (by omega)
              rwa [Nat.succ_mul] at h2
            omega
  · exact h.elim

/-- An entry that is let be: its block belongs to what stays. -/
theorem Holds.freeze {ρ : Nat → Loc} {hp : List Ent} {M F : HL} {w : World} (H : Holds ρ hp M F w) {n : Nat} {e : TypeId} {ck : List CK} {rows : List (List Value)} (he : hp[n]? = some (.row true e ck rows)) {b base cap : Nat} (hρ : ρ n = some (b, base, cap)) :
    ∃ M' F' cur, Holds ρ (hp.set n .gone) M' F' w ∧ Gr M F M' F' ∧ M' b = some (.cells cur e (0, 0)) ∧ rows.length ≤ cap ∧ RowAt ck cur base rows := by
  have hE := H.ent n _ he
  simp only [EntOK, hρ, if_true] at hE
  obtain ⟨_, cur, fr, ⟨h1, _, _⟩, h2, h3⟩ := hE
  have hnb : owns ρ hp n b := ⟨_, base, cap, he, rfl, hρ⟩
  have hFb := H.out n b hnb
  have hn : n < hp.length := (List.getElem?_eq_some_iff.1 he).1
  have hown : ∀ m c, owns ρ (hp.set n .gone) m c → m ≠ n ∧ owns ρ hp m c := by
    rintro m c ⟨e1, ba, ca, h1, h2, h3⟩
    by_cases hm : n = m
    · subst hm
      rw [List.getElem?_set_self hn] at h1
      cases h1; cases h2
    · rw [List.getElem?_set_ne hm] at h1
      exact ⟨fun h => hm h.symm, e1, ba, ca, h1, h2, h3⟩
  have hMb : M b = none := by
    cases hm : M b with
    | none => rfl
    | some o => rw [H.sub _ _ hm] at hFb; cases hFb
  have hMM : FLe M fun k => if k = b then some (.cells cur e (0, 0)) else M k := fun k o h => by
    by_cases hk : k = b
    · subst hk; rw [hMb] at h; cases h
    · simp only [if_neg hk]; exact h
  refine ⟨fun k => if k = b then some (.cells cur e (0, 0)) else M k, fun k => if k = b then some (.cells cur e (0, 0)) else F k, cur, ⟨fun m e1 h4 => ?_, fun m k c h4 h5 => H.sep m k c (hown _ _ h4).2 (hown _ _ h5).2, fun m c h4 => ?_, fun k o hk => ?_, fun k o hk => ?_, fun m hm => H.dom m (by simpa using hm)⟩, ⟨fun k o h => ?_, hMM, fun k o h => ?_⟩, by simp, h2, h3⟩
  · by_cases hm : n = m
    · subst hm
      rw [List.getElem?_set_self hn] at h4
      cases h4
      trivial
    · rw [List.getElem?_set_ne hm] at h4
      exact (H.ent m e1 h4).keep (fun _ _ h => h) rfl hMM fun _ _ _ _ _ => rfl
  · obtain ⟨h5, h6⟩ := hown m c h4
    have hc : c ≠ b := fun h => by subst h; exact h5 (H.sep _ _ _ h6 hnb)
    simp only [if_neg hc]
    exact H.out m c h6
  · by_cases hkb : k = b
    · simp only [if_pos hkb] at hk
      rw [hkb, h1]; exact hk
    · simp only [if_neg hkb] at hk
      exact H.frm k o hk
  · by_cases hkb : k = b
    · simp only [if_pos hkb] at hk ⊢; exact hk
    · simp only [if_neg hkb] at hk ⊢
      exact H.sub k o hk
  · by_cases hk : k = b
    · subst hk; rw [hFb] at h; cases h
    · simp only [if_neg hk]; exact h
  · by_cases hkb : k = b
    · exact .inr (by rw [hkb]; exact hFb)
    · simp only [if_neg hkb] at h; exact .inl h

theorem RowAt.sub {ck : List CK} {cur : Array Value} {base : Nat} {rows : List (List Value)} (h : RowAt ck cur base rows) (i n : Nat) : RowAt ck cur (base + i * ck.length) ((rows.drop i).take n) := fun j r hr => by
  rw [List.getElem?_take] at hr
  split at hr
  · rw [List.getElem?_drop] at hr
    obtain ⟨h1, h2⟩ := h (i + j) r hr
    refine ⟨h1, fun f k x hk hx => ?_⟩
    have := h2 f k x hk hx
    rwa [Nat.add_mul, show base + (i * ck.length + j * ck.length + f) = base + i * ck.length + (j * ck.length + f) by omega] at this
  · cases hr

theorem Holds.seen {ρ : Nat → Loc} {hp : List Ent} {M F : HL} {w : World} {n : Nat} (H : Holds ρ (hp.set n .gone) M F w) (hn : n < hp.length) {e : Ent} (ho : e.own = false) (he : EntOK ρ M w n e) : Holds ρ (hp.set n e) M F w := by
  have hown : ∀ m c, owns ρ (hp.set n e) m c → owns ρ (hp.set n .gone) m c := by
    rintro m c ⟨e1, ba, ca, h1, h2, h3⟩
    by_cases hm : n = m
    · subst hm
      rw [List.getElem?_set_self hn] at h1
      cases h1; rw [ho] at h2; cases h2
    · rw [List.getElem?_set_ne hm] at h1
      exact ⟨e1, ba, ca, by rw [List.getElem?_set_ne hm]; exact h1, h2, h3⟩
  refine ⟨fun m e1 h1 => ?_, fun m k c h1 h2 => H.sep m k c (hown _ _ h1) (hown _ _ h2), fun m c h1 => H.out m c (hown _ _ h1), H.frm, H.sub, fun m hm => H.dom m (by simpa using hm)⟩
  by_cases hm : n = m
  · subst hm
    rw [List.getElem?_set_self hn] at h1
    cases h1
    exact he
  · rw [List.getElem?_set_ne hm] at h1
    exact H.ent m e1 (by rw [List.getElem?_set_ne hm]; exact h1)
theorem frz1_sound {s : SV} {hp : List Ent} {M F : HL} {K : SV → List Ent → HL → Prop} {ρ : Nat → Loc} {w : World} {v : Value} (h : frz1 s hp M K) (H : Holds ρ hp M F w) (hd : Den ρ s v) :
    ∃ s' hp' M' F', K s' hp' M' ∧ hp'.length = hp.length ∧ Holds ρ hp' M' F' w ∧ Gr M F M' F' ∧ Den ρ s' v ∧ s.one = s'.one := by
  have same : ∀ s', K s' hp M → Den ρ s' v → s.one = s'.one → ∃ s' hp' M' F', K s' hp' M' ∧ hp'.length = hp.length ∧ Holds ρ hp' M' F' w ∧ Gr M F M' F' ∧ Den ρ s' v ∧ s.one = s'.one := fun s' h1 h2 h3 => ⟨s', hp, M, F, h1, rfl, H, Gr.refl M F, h2, h3⟩
  unfold frz1 at h
  split at h
  · simp only [Den] at hd
    obtain ⟨a, rfl⟩ := hd
    exact same _ (h a) ⟨rfl, a, 0, 0, rfl, Nat.le_refl _, fun _ => rfl⟩ rfl
  · rename_i n wd i len
    simp only [Den] at hd
    obtain ⟨a, c, rfl, hlc, hor⟩ := hd
    split at h
    · rename_i e ck rows he
      have he := eget_ne he (by simp)
      split at h
      case h_2 => exact h.elim
      rename_i hw
      rw [llen_eq] at hw
      have hw := Nat.eq_of_beq_eq_true hw
      subst hw
      have h0 : 0 < ck.length := (H.ent n _ he).1
      have hnl : n < hp.length := (List.getElem?_eq_some_iff.1 he).1
      have into : (∃ (m : Nat) (N : HL), hp[m]? = some (.sub true N) ∧ i + len ≤ rows.length ∧ ∀ (y : Value) (N' : HL), FLe N N' → OwnIn N' e ck y ((rows.drop i).take len) → (∀ b, blkOf y = some b → N b = none) →
            eset .gone hp n fun hp1 => eset (.sub true N') hp1 m fun hp' => K (.rsl y) hp' M) →
          ∃ s' hp' M' F', K s' hp' M' ∧ hp'.length = hp.length ∧ Holds ρ hp' M' F' w ∧ Gr M F M' F' ∧ Den ρ s' (.slice a len c) ∧ (SV.slc n ck.length i len).one = s'.one := by
        rintro ⟨m, N, hm, hil, h⟩
        have hml : m < hp.length := (List.getElem?_eq_some_iff.1 hm).1
        have hnm : n ≠ m := fun h => by subst h; rw [he] at hm; cases hm
        by_cases hc0 : c = 0
        · obtain rfl : len = 0 := by omega
          have := h (.slice a 0 0) N (FLe.refl N) ⟨h0, .inl ⟨by simp, a, rfl⟩⟩ (fun b hb => by cases a <;> cases hb)
          rw [eset_iff, eset_iff] at this
          subst hc0
          refine ⟨_, _, M, F, this, by simp, ?_, Gr.refl M F, ⟨rfl, a, 0, 0, rfl, Nat.le_refl _, fun _ => rfl⟩, rfl⟩
          have hsub : (hp.set n .gone).set m (.sub true N) = hp.set n .gone := by
            apply List.ext_getElem?
            intro j
            by_cases hj : m = j
            · subst hj; rw [List.getElem?_set_self (by simpa using hml), List.getElem?_set_ne hnm, hm]
            · rw [List.getElem?_set_ne hj]
          rw [hsub]
          have hown : ∀ m c, owns ρ (hp.set n .gone) m c → owns ρ hp m c := by
            rintro m c ⟨e1, ba, ca, h1, h2, h3⟩
            by_cases hm : n = m
            · subst hm
              rw [List.getElem?_set_self hnl] at h1
              cases h1; cases h2
            · rw [List.getElem?_set_ne hm] at h1
              exact ⟨e1, ba, ca, h1, h2, h3⟩
          exact ⟨fun m e1 h1 => by
            by_cases hm : n = m
            · subst hm
              rw [List.getElem?_set_self hnl] at h1
              cases h1
              trivial
            · rw [List.getElem?_set_ne hm] at h1
              exact H.ent m e1 h1, fun m k c h1 h2 => H.sep m k c (hown _ _ h1) (hown _ _ h2), fun m c h1 => H.out m c (hown _ _ h1), H.frm, H.sub, fun m hm => H.dom m (by simpa using hm)⟩
        · rcases hor with h1 | ⟨b, base, cap, hρ, rfl, hcap⟩
          · exact absurd h1 hc0
          obtain ⟨cur, hNb, hsz, hcm, hrl, hrow, H'⟩ := H.subIn he hm hρ
          have hlen : ((rows.drop i).take len).length = len := by simp; omega
          obtain ⟨c2, rfl⟩ : ∃ c2, c = c2 + 1 := ⟨c - 1, by omega⟩
          have := h (.slice (some ⟨b, base + i * ck.length, none⟩) len (c2 + 1)) (hput N b (some (.cells cur e (0, 0)))) (fun k o hk => by
              by_cases hkb : k = b
              · subst hkb; rw [hNb] at hk; cases hk
              · rw [hput_ne _ _ hkb]; exact hk)
            ⟨h0, .inr ⟨b, base + i * ck.length, c2 + 1, cap - i, cur, by rw [hlen], by omega, by omega, by omega, hput_self _ _ _, by
              rw [hsz, Nat.sub_mul]
              have : i * ck.length ≤ cap * ck.length := Nat.mul_le_mul_right _ (by omega)
              omega, by omega, hrow.sub i len⟩⟩ (fun b' hb' => by cases hb'; exact hNb)
          rw [eset_iff, eset_iff] at this
          exact ⟨_, _, M, F, this, by simp, H', Gr.refl M F, ⟨rfl, _, _, _, rfl, hlc, fun h => by cases h⟩, rfl⟩
      suffices hstd : (i + len ≤ rows.length ∧ ∀ (y : Value) (M' : HL), FLe M M' → RowsIn M' e ck y ((rows.drop i).take len) → eset (.row false e ck rows) hp n fun hp' => K (.rsl y) hp' M') →
          ∃ s' hp' M' F', K s' hp' M' ∧ hp'.length = hp.length ∧ Holds ρ hp' M' F' w ∧ Gr M F M' F' ∧ Den ρ s' (.slice a len c) ∧ (SV.slc n ck.length i len).one = s'.one by
        split at h
        · exact hstd h
        · rcases h with h | h
          · exact hstd h
          · exact into h
      clear h
      intro h
      obtain ⟨hil, h⟩ := h
      have hall : ∃ M' F', Holds ρ (hp.set n (.row false e ck rows)) M' F' w ∧ Gr M F M' F' ∧ ∀ b base cap, ρ n = some (b, base, cap) → ∃ cur, M' b = some (.cells cur e (0, 0)) ∧ RowAt ck cur base rows := by
        cases hρ : ρ n with
        | none =>
          have hE := H.ent n _ he
          simp only [EntOK, hρ] at hE
          have hown : ∀ m c, owns ρ (hp.set n .gone) m c → owns ρ hp m c := by
            rintro m c ⟨e1, ba, ca, h1, h2, h3⟩
            by_cases hm : n = m
            · subst hm
              rw [List.getElem?_set_self hnl] at h1
              cases h1; cases h2
            · rw [List.getElem?_set_ne hm] at h1
              exact ⟨e1, ba, ca, h1, h2, h3⟩
          have H0 : Holds ρ (hp.set n .gone) M F w := ⟨fun m e1 h1 => by
            by_cases hm : n = m
            · subst hm
              rw [List.getElem?_set_self hnl] at h1
              cases h1
              trivial
            · rw [List.getElem?_set_ne hm] at h1
              exact H.ent m e1 h1, fun m k c h1 h2 => H.sep m k c (hown _ _ h1) (hown _ _ h2), fun m c h1 => H.out m c (hown _ _ h1), H.frm, H.sub, fun m hm => H.dom m (by simpa using hm)⟩
          exact ⟨M, F, H0.seen hnl rfl (by simp only [EntOK, hρ]; exact ⟨h0, hE.2⟩), Gr.refl M F, fun b base cap h => by cases h⟩
        | some x =>
          obtain ⟨b, base, cap⟩ := x
          obtain ⟨M', F', cur, H', hG, hM, hrl, hrow⟩ := H.freeze he hρ
          exact ⟨M', F', H'.seen hnl rfl (by simp only [EntOK, hρ, Bool.false_eq_true, if_false]; exact ⟨h0, cur, (0, 0), hM, hrl, hrow⟩), hG, fun b' base' cap' h => by cases h; exact ⟨cur, hM, hrow⟩⟩
      obtain ⟨M', F', H', hG, hc⟩ := hall
      rcases hor with rfl | ⟨b, base, cap, hρ, rfl, hcap⟩
      · obtain rfl : len = 0 := by omega
        have := h (.slice a 0 0) M' hG.kn ⟨h0, .inl ⟨by simp, a, rfl⟩⟩
        rw [eset_iff] at this
        exact ⟨_, _, M', F', this, by simp, H', hG, ⟨rfl, a, 0, 0, rfl, Nat.le_refl _, fun _ => rfl⟩, rfl⟩
      · obtain ⟨cur, hM, hrow⟩ := hc b base cap hρ
        have hlen : ((rows.drop i).take len).length = len := by simp; omega
        have := h (.slice (some ⟨b, base + i * ck.length, none⟩) len c) M' hG.kn ⟨h0, .inr ⟨b, base + i * ck.length, c, cur, (0, 0), by rw [hlen], by omega, hM, hrow.sub i len⟩⟩
        rw [eset_iff] at this
        exact ⟨_, _, M', F', this, by simp, H', hG, ⟨rfl, _, _, _, rfl, hlc, fun h => by cases h⟩, rfl⟩
    · rename_i e ck rows he
      have he := eget_ne he (by simp)
      split at h
      case h_2 => exact h.elim
      rename_i hw
      rw [llen_eq] at hw
      have hw := Nat.eq_of_beq_eq_true hw
      subst hw
      obtain ⟨hil, h⟩ := h
      have hE := H.ent n _ he
      simp only [EntOK] at hE
      obtain ⟨h0, hE⟩ := hE
      rcases hor with rfl | ⟨b, base, cap, hρ, rfl, hcap⟩
      · obtain rfl : len = 0 := by omega
        exact same _ (h (.slice a 0 0) ⟨h0, .inl ⟨by simp, a, rfl⟩⟩) ⟨rfl, a, 0, 0, rfl, Nat.le_refl _, fun _ => rfl⟩ rfl
      · rw [hρ] at hE
        simp only [Bool.false_eq_true, if_false] at hE
        obtain ⟨cur, fr, hM, hrl, hrow⟩ := hE
        have hlen : ((rows.drop i).take len).length = len := by simp; omega
        exact same _ (h (.slice (some ⟨b, base + i * ck.length, none⟩) len c) ⟨h0, .inr ⟨b, base + i * ck.length, c, cur, fr, by rw [hlen], by omega, hM, hrow.sub i len⟩⟩) ⟨rfl, _, _, _, rfl, hlc, fun h => by cases h⟩ rfl
    · exact h.elim
  case h_11 =>
    rename_i n wd len c
    simp only [Den] at hd
    obtain ⟨b, base, cap, hρ, rfl, hlc, hcc⟩ := hd
    split at h
    case h_2 => exact h.elim
    rename_i e ck rows he
    have he := eget_ne he (by simp)
    split at h
    case h_2 => exact h.elim
    rename_i hw
    rw [llen_eq] at hw
    have hw := Nat.eq_of_beq_eq_true hw
    subst hw
    obtain ⟨hil, h⟩ := h
    have h0 : 0 < ck.length := (H.ent n _ he).1
    have hnl : n < hp.length := (List.getElem?_eq_some_iff.1 he).1
    obtain ⟨M', F', cur, H', hG, hM, hrl, hrow⟩ := H.freeze he hρ
    have H'' := H'.seen hnl (e := .row false e ck rows) rfl (by simp only [EntOK, hρ, Bool.false_eq_true, if_false]; exact ⟨h0, cur, (0, 0), hM, hrl, hrow⟩)
    have hlen : (rows.take len).length = len := by simp; omega
    have hr := hrow.sub 0 len
    rw [Nat.zero_mul, Nat.add_zero, List.drop_zero] at hr
    have := h (.slice (some ⟨b, base, none⟩) len c) M' hG.kn ⟨h0, .inr ⟨b, base, c, cur, (0, 0), by rw [hlen], by omega, hM, hr⟩⟩ rfl
    rw [eset_iff] at this
    exact ⟨_, _, M', F', this, by simp, H'', hG, ⟨rfl, _, _, _, rfl, hlc, fun h => by cases h⟩, rfl⟩
  all_goals exact same _ h hd rfl
theorem frzL_sound {ρ : Nat → Loc} {w : World} : ∀ {l : List SV} {hp : List Ent} {M F : HL} {K : List SV → List Ent → HL → Prop} {vs : List Value}, frzL l hp M K → Holds ρ hp M F w → DenL ρ l vs →
    ∃ l' hp' M' F', K l' hp' M' ∧ hp'.length = hp.length ∧ Holds ρ hp' M' F' w ∧ Gr M F M' F' ∧ DenL ρ l' vs ∧ oneL l = oneL l'
  | [], hp, M, F, K, vs, h, H, hd => ⟨[], hp, M, F, h, rfl, H, Gr.refl M F, hd, rfl⟩
  | s :: r, hp, M, F, K, [], h, H, hd => by simp [DenL] at hd
  | s :: r, hp, M, F, K, v :: vs, h, H, hd => by
    simp only [DenL] at hd
    obtain ⟨s', hp1, M1, F1, h1, hl1, H1, hG1, hd1, ho1⟩ := frz1_sound h H hd.1
    obtain ⟨l', hp2, M2, F2, h2, hl2, H2, hG2, hd2, ho2⟩ := frzL_sound h1 H1 hd.2
    exact ⟨s' :: l', hp2, M2, F2, h2, hl2.trans hl1, H2, hG1.trans hG2, by simp only [DenL]; exact ⟨hd1, hd2⟩, by simp only [oneL, ho1, ho2]⟩

theorem vStore_sound {P : Program} {m : Nat} {x y : SV} {hp : List Ent} {M F : HL} {K : List Ent → HL → Prop} {ρ : Nat → Loc} {w : World} {p v : Value} (h : vStore m x y hp M K) (H : Holds ρ hp M F w) (hp' : Den ρ x p) (hv : Den ρ y v) :
    ∃ a hp' M' F' w', p = .pointer (some a) ∧ v.cells.size = m ∧ (storeCells a v.cells.toList).run P w = .ok () w' ∧ K hp' M' ∧ hp'.length = hp.length ∧ Holds ρ hp' M' F' w' ∧ Gr M F M' F' ∧ Same w w' := by
  unfold vStore at h
  have h0 := flat_iff h
  clear h
  obtain ⟨l, h, hfl⟩ := h0
  split at h
  · rename_i _ _ hone
    obtain ⟨hd, hoc⟩ := den_flat hv hfl hone
    obtain ⟨l', hp1, M1, F1, h1, hl1, H1, hG1, hd1, ho1⟩ := frzL_sound h H hd
    obtain ⟨a, hp2, w', h2, h3, h4, h5, h6, h7, h8⟩ := vStore0_sound (P := P) h1 H1 hp' (fun _ => ⟨hd1, hoc⟩)
    exact ⟨a, hp2, M1, F1, w', h2, h3, h4, h5, h6.trans hl1, h7, hG1, h8⟩
  · obtain ⟨a, hp2, w', h2, h3, h4, h5, h6, h7, h8⟩ := vStore0_sound (P := P) h H hp' (den_flat hv hfl)
    exact ⟨a, hp2, M, F, w', h2, h3, h4, h5, h6, h7, Gr.refl M F, h8⟩
end Go.Vc
/-
  Symbolic execution, part E: one operation.
-/
namespace Go.Vc

/-- Two ways, by a test. -/
structure Cnd (b : Bool) (A B : Prop) : Prop where
  t : b = true → A
  f : b = false → B
theorem Cnd.yes {A B : Prop} (h : A) : Cnd true A B := ⟨fun _ => h, (fun h => by cases h)⟩
theorem Cnd.no {A B : Prop} (h : B) : Cnd false A B := ⟨(fun h => by cases h), fun _ => h⟩

abbrev Trans := List SV → List Ent → HL → (SV → List Ent → HL → Prop) → Prop

/-- Parts laid over a value's cells. -/
def vParts (tm : List SV) : List (Nat × Nat × PArg) → List SV → (List SV → Prop) → Prop
  | [], acc, K => K acc
  | (off, size, x) :: r, acc, K => flat (ev tm x) fun l => match Nat.beq (llen l) size, oneL l with
    | true, true => overN l acc off fun acc' => vParts tm r acc' K
    | _, _ => False
def plainL : List SV → Bool
  | [] => true
  | .v _ :: r => plainL r
  | .rsl _ :: r => plainL r
  | _ :: _ => false
/-- n rows of values. -/
def rowsOf (ck : List CK) : Nat → List SV → (List (List Value) → Prop) → Prop
  | 0, _, K => K []
  | n + 1, l, K => takeN l (llen ck) fun h => valsOf ck h fun vs => rowsOf ck n (dropN l (llen ck)) fun rs => K (vs :: rs)
def vFold (mx : Bool) (k : IntKind) : List SV → Int → (SV → Prop) → Prop
  | [], a, K => K (.v (.int k a))
  | .v (.int _ b) :: r, a, K => match mx with
    | true => vFold mx k r (if b > a then b else a) K
    | false => vFold mx k r (if b < a then b else a) K
  | _, _, _ => False
/-- A slice's bound: a number that is there, or the default. -/
def vBound (tm : List SV) (x : Option PArg) (d : Nat) (K : Int → Prop) : Prop :=
  match x with
  | none => K (d : Int)
  | some p => match ev tm p with
    | .v (.int _ i) => K i
    | _ => False
def isNilS : SV → Bool
  | .emp => true
  | .v (.slice none 0 0) => true
  | _ => false
/-- The rows that a slice shows. -/
def vRows (x : SV) (ck : List CK) (hp : List Ent) (M : HL) (K : Nat → List (List Value) → Prop) : Prop :=
  match isNilS x with
  | true => K 0 []
  | false => match x with
    | .slc m w j n => match eget hp m with
      | .row _ _ ck' rows => match decide (ck' = ck), Nat.beq w (llen ck) with
        | true, true => j + n ≤ rows.length ∧ K n ((rows.drop j).take n)
        | _, _ => False
      | _ => False
    | .rsl y => ∃ e rows, RowsInE M e ck y rows hp ∧ K rows.length rows
    | _ => False

/-- The value itself, its form brought to light. -/
def force (s : SV) (K : SV → Prop) : Prop :=
  match s with
  | .v x => K (.v x)
  | .ptr n w i f => K (.ptr n w i f)
  | .slc n w i len => K (.slc n w i len)
  | .emp => K .emp
  | .agg l => K (.agg l)
  | .tup l => K (.tup l)
  | .fn f a b => K (.fn f a b)
  | .ifc t x => K (.ifc t x)
  | .rsl y => K (.rsl y)
  | .rpt y w i f => K (.rpt y w i f)
  | .slx n w len c => K (.slx n w len c)
  | .via n x => K (.via n x)
  | .any => K .any
theorem force_eq (s : SV) (K : SV → Prop) : force s K = K s := by cases s <;> rfl
def evK (tm : List SV) : List PArg → (List SV → Prop) → Prop
  | [], K => K []
  | x :: r, K => force (ev tm x) fun s => evK tm r fun l => K (s :: l)
theorem evK_eq (tm : List SV) : ∀ (l : List PArg) (K : List SV → Prop), evK tm l K = K (evL tm l)
  | [], _ => rfl
  | x :: r, K => by simp only [evK, force_eq, evK_eq tm r, evL]
def isI0 : SV → Bool
  | .v (.int _ 0) => true
  | _ => false
def isO {α : Type} : Option α → Bool
  | none => false
  | some _ => true
/-- A length, as a numeral. -/
def lits : List Nat := [0, 1, 2, 3, 4, 5, 6, 7, 8, 9, 10, 11, 12, 13, 14, 15, 16, 17, 18, 19, 20, 21, 22, 23, 24, 25, 26, 27, 28, 29, 30, 31, 32, 33, 34, 35, 36, 37, 38, 39, 40, 41, 42, 43, 44, 45, 46, 47]
def lenG {α : Type} (l0 : List α) : List α → List Nat → (Nat → Prop) → Prop
  | [], n :: _, K => K n
  | _ :: r, _ :: ns, K => lenG l0 r ns K
  | _, [], K => K (llen l0)
def lenK {α : Type} (l : List α) (K : Nat → Prop) : Prop := lenG l l lits K
theorem lenG_eq {α : Type} (l0 : List α) : ∀ (l : List α) (ns : List Nat) (K : Nat → Prop) (k : Nat), (∀ (i n : Nat), ns[i]? = some n → n = k + i) → llen l0 = k + llen l → lenG l0 l ns K = K (llen l0)
  | [], n :: ns, K, k, h, h0 => by
    have := h 0 n rfl
    simp only [lenG]
    rw [h0, this]
    rfl
  | _ :: r, m :: ns, K, k, h, h0 => by
    simp only [lenG]
    exact lenG_eq l0 r ns K (k + 1) (fun i n hi => by rw [h (i + 1) n (by simpa using hi)]; omega) (by rw [h0]; simp only [llen]; omega)
  | [], [], K, _, _, _ => by simp [lenG]
  | _ :: _, [], K, _, _, _ => by simp [lenG]
theorem lenK_eq {α : Type} (l : List α) (K : Nat → Prop) : lenK l K = K (llen l) := by
  refine lenG_eq l l lits K 0 (fun i n hi => ?_) (by simp)
  have hl : lits = List.range 48 := by decide
  rw [hl] at hi
  have hlt := (List.getElem?_eq_some_iff.1 hi)
  obtain ⟨h1, h2⟩ := hlt
  simp at h2
  omega
def vPick (c x y : SV) (K : SV → Prop) : Prop :=
  match c with
  | .v (.bool t) => Cnd t (force x K) (force y K)
  | _ => False
def vBox (e : TypeId) (x : SV) (hp : List Ent) (K : SV → List Ent → Prop) : Prop :=
  flat x fun l => match oneL l with
  | true => epush (.cells e l) hp fun hp' => lenK hp fun nn => K (.ptr nn 0 0 0) hp'
  | false => False
def vBslice0 (e : TypeId) (ck : List CK) (n : Nat) (l : List SV) (hp : List Ent) (K : SV → List Ent → Prop) : Prop :=
  match ck with
  | [] => False
  | _ :: _ => match plainL l with
    | true => rowsOf ck n l fun rows => match Nat.beq (llen l) (n * llen ck) with
      | true => epush (.row true e ck rows) hp fun hp' => lenK hp fun nn => lenK ck fun ww => K (.slc nn ww 0 n) hp'
      | false => False
    | false => match oneL l with
      | true => epush (.cells e l) hp fun hp' => lenK hp fun nn => lenK ck fun ww => K (.slc nn ww 0 n) hp'
      | false => False
def vBslice (e : TypeId) (ck : List CK) (n : Nat) (l : List SV) (hp : List Ent) (M : HL) (K : SV → List Ent → HL → Prop) : Prop :=
  match hasRef l, oneL l with
  | true, true => frzL l hp M fun l' hp' M' => vBslice0 e ck n l' hp' fun v hp2 => K v hp2 M'
  | _, _ => vBslice0 e ck n l hp fun v hp2 => K v hp2 M
def vNil (x : SV) (K : SV → Prop) : Prop :=
  match x with
  | .ptr n w i f => K (.ptr n w i f)
  | .rpt y w i f => K (.rpt y w i f)
  | .v (.pointer (some a)) => K (.v (.pointer (some a)))
  | _ => False
def vConv (k : IntKind) (x : SV) (K : SV → Prop) : Prop :=
  match x with
  | .v (.int _ n) => K (.v (.int k (k.wrap n)))
  | _ => False
def vInt (x : SV) (K : Int → Prop) : Prop :=
  match x with
  | .v (.int _ n) => K n
  | _ => False
def vMslice (e : TypeId) (ck : List CK) (z : List Value) (bytes : Nat) (l c : SV) (hp : List Ent) (K : SV → List Ent → Prop) : Prop :=
  match ck with
  | [] => False
  | _ :: _ => vInt l fun n => vInt c fun m => 0 ≤ n ∧ n ≤ m ∧ (bytes : Int) * m ≤ 281474976710656 ∧ m ≤ 9223372036854775807 ∧
      Alt (epush (.row true e ck (List.replicate n.toNat z)) hp fun hp' => lenK hp fun nn => lenK ck fun ww => K (.slc nn ww 0 n.toNat) hp')
        (epush (.row true e ck (List.replicate n.toNat z)) hp fun hp' => lenK hp fun nn => lenK ck fun ww => K (.slx nn ww n.toNat m.toNat) hp')
/-- A part of a slice. -/
def subY (y : Value) (w l h : Nat) : Value :=
  match y with
  | .slice a _ c => .slice (if c = l then a else a.map (·.add (l * w))) (h - l) (c - l)
  | y => y
/-- 'x[lo:hi]' within the length; or 'x[:0:0]'. -/
def vSlice (tm : List SV) (w : Nat) (x : SV) (lo hi mx : Option PArg) (K : SV → Prop) : Prop :=
  match isO mx with
  | false => match isNilS x with
    | true => vBound tm lo 0 fun l => vBound tm hi 0 fun h => 0 ≤ l ∧ l ≤ h ∧ h ≤ 0 ∧ K .emp
    | false => match x with
      | .slc n w' i len => match Nat.beq w w' with
        | true => vBound tm lo 0 fun l => vBound tm hi len fun h => 0 ≤ l ∧ l ≤ h ∧ h ≤ (len : Int) ∧ K (.slc n w (i + l.toNat) (h.toNat - l.toNat))
        | false => False
      | .rsl y => vBound tm lo 0 fun l => vBound tm hi (slen y) fun h => 0 ≤ l ∧ l ≤ h ∧ h ≤ (slen y : Int) ∧ K (.rsl (subY y w l.toNat h.toNat))
      | _ => False
  | true => match x with
    | .slc _ _ _ _ => match isO lo, isI0 (match hi with | some p => ev tm p | none => .any), isI0 (match mx with | some p => ev tm p | none => .any) with
      | false, true, true => K .emp
      | _, _, _ => False
    | _ => False
def vFld (off : Nat) (x : SV) (K : SV → Prop) : Prop :=
  match x with
  | .ptr n w i f => K (.ptr n w i (f + off))
  | .rpt y w i f => K (.rpt y w i (f + off))
  | _ => False
def vPart (off : Nat) (s : Option Nat) (x : SV) (K : SV → Prop) : Prop :=
  match x with
  | .agg l => match s with
    | none => match dropN l off with | y :: _ => K y | [] => False
    | some m => takeN (dropN l off) m fun l' => K (.agg l')
  | _ => False
def isCells : Ent → Bool
  | .cells .. => true
  | .rcells .. => true
  | _ => false
def vIdx (w : Nat) (x i : SV) (hp : List Ent) (K : SV → Prop) : Prop :=
  match x with
  | .slc n w' j len => vInt i fun k => match Nat.beq w w' with
    | true => 0 ≤ k ∧ k < (len : Int) ∧ match isCells (eget hp n) with
      | true => K (.ptr n 0 0 ((j + k.toNat) * w))
      | false => K (.ptr n w (j + k.toNat) 0)
    | false => False
  | .rsl y => vInt i fun k => 0 ≤ k ∧ k < (slen y : Int) ∧ K (.rpt y w k.toNat 0)
  | _ => False
/-- An element of an array behind a pointer; the prover says which. -/
def vIdxa (len w : Nat) (x i : SV) (K : SV → Prop) : Prop :=
  match x with
  | .ptr n wd j f => vInt i fun k => ∃ m : Nat, k = (m : Int) ∧ m < len ∧ K (.ptr n wd j (f + m * w))
  | _ => False
/-- An element of an array's value. -/
def vIxv (len : Nat) (x i : SV) (K : SV → Prop) : Prop :=
  match x with
  | .agg l => vInt i fun k => ∃ m : Nat, k = (m : Int) ∧ m < len ∧ match dropN l m with | y :: _ => K y | [] => False
  | _ => False
def vExt (x : SV) (i : Nat) (K : SV → Prop) : Prop :=
  match x with
  | .tup l => match dropN l i with | y :: _ => K y | [] => False
  | _ => False
def vLen (x : SV) (K : SV → Prop) : Prop :=
  match isNilS x with
  | true => K (.v (.int .i64 0))
  | false => match x with
    | .slc _ _ _ n => K (.v (.int .i64 (n : Int)))
    | .rsl y => K (.v (.int .i64 (slen y : Nat)))
    | .slx _ _ n _ => K (.v (.int .i64 (n : Int)))
    | _ => False
def vApp0 (e : TypeId) (ck : List CK) (bytes n : Nat) (news : List (List Value)) (s : SV) (hp : List Ent) (M : HL) (K : SV → List Ent → Prop) : Prop :=
  match isNilS s with
    | true => n * bytes ≤ 140737488355328 ∧ epush (.row true e ck news) hp fun hp' => lenK hp fun nn => lenK ck fun ww => K (.slc nn ww 0 n) hp'
    | false => match s with
      | .slc a w i len => match eget hp a with
        | .row true e' ck' rows => match Nat.beq e e', decide (ck' = ck), Nat.beq w (llen ck) with
          | true, true, true => (len + n) * bytes ≤ 140737488355328 ∧ i + len ≤ rows.length ∧
              eset .gone hp a fun hp1 => epush (.row true e ck ((rows.drop i).take len ++ news)) hp1 fun hp' => lenK hp fun nn => lenK ck fun ww => K (.slc nn ww 0 (len + n)) hp'
          | _, _, _ => False
        | _ => False
      | .slx a w len c => match eget hp a with
        | .row true e' ck' rows => match Nat.beq e e', decide (ck' = ck), Nat.beq w (llen ck) with
          | true, true, true => len + n ≤ c ∧ len ≤ rows.length ∧
              eset .gone hp a fun hp1 => epush (.row true e ck (rows.take len ++ news)) hp1 fun hp' => lenK hp fun nn => lenK ck fun ww => K (.slx nn ww (len + n) c) hp'
          | _, _, _ => False
        | _ => False
      | .rsl y => ∃ rows, RowsIn M e ck y rows ∧ scap y = rows.length ∧ 0 < n ∧ (rows.length + n) * bytes ≤ 140737488355328 ∧
          epush (.row true e ck (rows ++ news)) hp fun hp' => lenK hp fun nn => lenK ck fun ww => K (.slc nn ww 0 (rows.length + n)) hp'
      | _ => False
/-- Behind a slice that lies in a part of one's own: its block is taken out. -/
def vThaw (e : TypeId) (ck : List CK) (bytes n : Nat) (news : List (List Value)) (y : Value) (hp : List Ent) (K : SV → List Ent → Prop) : Prop :=
  ∃ (m : Nat) (N : HL) (rows : List (List Value)), hp[m]? = some (.sub true N) ∧ OwnIn N e ck y rows ∧ (rows.length + n) * bytes ≤ 140737488355328 ∧
    ∀ N', (∀ b, blkOf y ≠ some b → N' b = N b) → (∀ b, blkOf y = some b → N' b = none) → eset (.sub true N') hp m fun hp1 => epush .gone hp1 fun hp2 =>
      epush (.row true e ck (rows ++ news)) hp2 fun hp' => lenK hp2 fun nn => lenK ck fun ww => K (.slc nn ww 0 (rows.length + n)) hp'
def vApp1 (e : TypeId) (ck : List CK) (bytes n : Nat) (news : List (List Value)) (s : SV) (hp : List Ent) (M : HL) (K : SV → List Ent → Prop) : Prop :=
  match hasSub hp with
  | false => vApp0 e ck bytes n news s hp M K
  | true => match s with
    | .rsl y => Alt (vApp0 e ck bytes n news (.rsl y) hp M K) (vThaw e ck bytes n news y hp K)
    | s => vApp0 e ck bytes n news s hp M K
def vAppend (e : TypeId) (ck : List CK) (bytes : Nat) (s x : SV) (hp : List Ent) (M : HL) (K : SV → List Ent → Prop) : Prop :=
  match ck with
  | [] => False
  | _ :: _ => vRows x ck hp M fun n news => vApp1 e ck bytes n news s hp M K
/-- So many zero elements behind nothing. -/
def vAppz (e : TypeId) (ck : List CK) (z : List Value) (bytes : Nat) (s n : SV) (hp : List Ent) (K : SV → List Ent → Prop) : Prop :=
  match ck with
  | [] => False
  | _ :: _ => match isNilS s with
    | true => vInt n fun m => 0 < m ∧ m * (bytes : Int) ≤ 140737488355328 ∧ epush (.row true e ck (List.replicate m.toNat z)) hp fun hp' => lenK hp fun nn => lenK ck fun ww => K (.slc nn ww 0 m.toNat) hp'
    | false => False
def vCap (x : SV) (K : SV → Prop) : Prop :=
  match isNilS x with
  | true => K (.v (.int .i64 0))
  | false => False
/-- The elements of a slice are made zero. -/
def vClr (e : TypeId) (ck : List CK) (z : List Value) (x : SV) (hp : List Ent) (K : SV → List Ent → Prop) : Prop :=
  match isNilS x with
  | true => K (.tup []) hp
  | false => match x with
    | .slc n w i len => match eget hp n with
      | .row true e' ck' rows => match Nat.beq e e', decide (ck' = ck), Nat.beq w (llen ck) with
        | true, true, true => i + len ≤ rows.length ∧ eset (.row true e' ck' (rows.take i ++ List.replicate len z ++ rows.drop (i + len))) hp n fun hp' => K (.tup []) hp'
        | _, _, _ => False
      | _ => False
    | _ => False
def vMinmax (mx : Bool) (l : List SV) (K : SV → Prop) : Prop :=
  match l with
  | .v (.int k a) :: r => vFold mx k r a K
  | _ => False
def vTassert (a : TypeId) (ok : Bool) (z : SV) (x : SV) (K : SV → Prop) : Prop :=
  match x with
  | .ifc t y => match Nat.beq t a, ok with
    | true, true => K (.tup [y, .v (.bool true)])
    | true, false => K y
    | false, true => K (.tup [z, .v (.bool false)])
    | false, false => False
  | .v (.iface t y) => match Nat.beq t a, ok with
    | true, true => K (.tup [.v y, .v (.bool true)])
    | true, false => K (.v y)
    | false, true => K (.tup [z, .v (.bool false)])
    | false, false => False
  | .v .nilIface => match ok with
    | true => K (.tup [z, .v (.bool false)])
    | false => False
  | _ => False
def vCall (Γ : Nat → Option Trans) (f : Nat) (args : List SV) (hp : List Ent) (M : HL) (K : SV → List Ent → HL → Prop) : Prop :=
  match Γ f with
  | some T => T args hp M K
  | none => False
def vCallv (Γ : Nat → Option Trans) (g : SV) (args : List SV) (hp : List Ent) (M : HL) (K : SV → List Ent → HL → Prop) : Prop :=
  match g with
  | .fn (.func f) first caps => vCall Γ f (first ++ args ++ caps) hp M K
  | _ => False
def isC : PArg → Bool
  | .c _ => true
  | _ => false

/-- A map's key. -/
def keyK (kt : KT) (s : SV) (K : Int × Int → Prop) : Prop :=
  match kt with
  | .one k => match s with
    | .v (.int k' a) => match kEq k k' with
      | true => K (a, 0)
      | false => False
    | _ => False
  | .two => match s with
    | .agg [.v (.int .i64 a), .v (.int .i64 b)] => K (a, b)
    | _ => False
def vsK : List Value → (List SV → Prop) → Prop
  | [], K => K []
  | x :: r, K => vsK r fun l => K (.v x :: l)
def valsV : List SV → (List Value → Prop) → Prop
  | [], K => K []
  | .v x :: r, K => valsV r fun l => K (x :: l)
  | _, _ => False
theorem vsK_eq : ∀ (l : List Value) (K : List SV → Prop), vsK l K = K (l.map .v)
  | [], _ => rfl
  | x :: r, K => by simp [vsK, vsK_eq r]
def vMkmap (hp : List Ent) (K : SV → List Ent → Prop) : Prop :=
  ∀ (r : Nat) (N : HL), (∀ kt, MapIn N r kt (fun _ => none)) → (∀ b o, N b = some o → b = r) → epush (.sub true N) hp fun hp' => lenK hp fun nn => K (.via nn (.map (some r))) hp'
def vMapget (kt : KT) (ek : Option Nat) (z : Value) (m k : SV) (hp : List Ent) (K : SV → Prop) : Prop :=
  match m with
  | .via n (.map (some r)) => keyK kt k fun p => ∃ (o : Bool) (N : HL) (g : Int × Int → Option Value), hp[n]? = some (.sub o N) ∧ MapIn N r kt g ∧ match ek with
    | none => ∃ y, (g p).getD z = y ∧ (∃ a n c, y = .slice a n c ∧ n ≤ c ∧ (a = none → n = 0)) ∧ K (.rsl y)
    | some _ => ∃ vs : List Value, (g p).getD z = .agg vs.toArray ∧ vsK vs fun l => K (.agg l)
  | _ => False
def vMapput (kt : KT) (m k x : SV) (hp : List Ent) (K : List Ent → Prop) : Prop :=
  match m with
  | .via n (.map (some r)) => keyK kt k fun p => ∃ (N : HL) (g : Int × Int → Option Value), hp[n]? = some (.sub true N) ∧ MapIn N r kt g ∧ match x with
    | .slc a w i len => match eget hp a with
      | .row true e ck rows => match Nat.beq w (llen ck) with
        | true => i + len ≤ rows.length ∧ ∀ (y : Value) (N' : HL), (∀ b o, b ≠ r → N b = some o → N' b = some o) → OwnIn N' e ck y ((rows.drop i).take len) → (∀ b, blkOf y = some b → N b = none) → MapIn N' r kt (mset kt g p y) →
            eset .gone hp a fun hp1 => eset (.sub true N') hp1 n K
        | false => False
      | _ => False
    | .v v => ∀ N', (∀ b, b ≠ r → N' b = N b) → MapIn N' r kt (mset kt g p v) → eset (.sub true N') hp n K
    | .rsl v => ∀ N', (∀ b, b ≠ r → N' b = N b) → MapIn N' r kt (mset kt g p v) → eset (.sub true N') hp n K
    | .agg l => valsV l fun vs => ∀ N', (∀ b, b ≠ r → N' b = N b) → MapIn N' r kt (mset kt g p (.agg vs.toArray)) → eset (.sub true N') hp n K
    | _ => False
  | _ => False

def vcOp (Γ : Nat → Option Trans) (o : POp) (tm : List SV) (hp : List Ent) (M : HL) (K : SV → List Ent → HL → Prop) : Prop :=
  match o with
  | .mov x => force (ev tm x) fun v => K v hp M
  | .pick c a b => vPick (ev tm c) (ev tm a) (ev tm b) fun v => K v hp M
  | .box e x => vBox e (ev tm x) hp fun v hp' => K v hp' M
  | .build z ps => vParts tm ps z fun l => K (.agg l) hp M
  | .bslice e ck n z ps => vParts tm ps z fun l => vBslice e ck n l hp M fun v hp' M' => K v hp' M'
  | .load s a => vLoad s (ev tm a) hp M fun v => K v hp M
  | .store m a x => vStore m (ev tm a) (ev tm x) hp M fun hp' M' => K (.v undef) hp' M'
  | .nilck x => vNil (ev tm x) fun v => K v hp M
  | .bin op x y => vBin op (ev tm x) (ev tm y) fun v => K v hp M
  | .eqp k c ne x y => vEq k c (ev tm x) (ev tm y) fun b => K (.v (.bool (match ne with | true => !b | false => b))) hp M
  | .eqb ne x y => vEqb ne (ev tm x) (ev tm y) fun v => K v hp M
  | .un op x => vUn op (ev tm x) fun v => K v hp M
  | .conv k x => vConv k (ev tm x) fun v => K v hp M
  | .iface t x => force (ev tm x) fun v => K (.ifc t v) hp M
  | .clo f a b => evK tm a fun a => evK tm b fun b => K (.fn f a b) hp M
  | .mslice e ck z bytes l c => vMslice e ck z bytes (ev tm l) (ev tm c) hp fun v hp' => K v hp' M
  | .slice w x lo hi mx => vSlice tm w (ev tm x) lo hi mx fun v => K v hp M
  | .fld off x => vFld off (ev tm x) fun v => K v hp M
  | .part off s x => vPart off s (ev tm x) fun v => K v hp M
  | .idx w x i => vIdx w (ev tm x) (ev tm i) hp fun v => K v hp M
  | .idxa n w x i => vIdxa n w (ev tm x) (ev tm i) fun v => K v hp M
  | .ixv n x i => vIxv n (ev tm x) (ev tm i) fun v => K v hp M
  | .ext x i => vExt (ev tm x) i fun v => force v fun v => K v hp M
  | .call f args => evK tm args fun l => vCall Γ f l hp M K
  | .callv g args => evK tm args fun l => vCallv Γ (ev tm g) l hp M K
  | .len x => vLen (ev tm x) fun v => K v hp M
  | .append e ck _ bytes s x => vAppend e ck bytes (ev tm s) (ev tm x) hp M fun v hp' => K v hp' M
  | .appendz e ck z bytes s x => vAppz e ck z bytes (ev tm s) (ev tm x) hp fun v hp' => K v hp' M
  | .cap x => vCap (ev tm x) fun v => K v hp M
  | .minmax mx xs => vMinmax mx (evL tm xs) fun v => K v hp M
  | .clr e ck z x => vClr e ck z (ev tm x) hp fun v hp' => K v hp' M
  | .tassert a ok z x => vTassert a ok z (ev tm x) fun v => K v hp M
  | .mkmap => vMkmap hp fun v hp' => K v hp' M
  | .mapget kt ek z m k => vMapget kt ek z (ev tm m) (ev tm k) hp fun v => K v hp M
  | .mapput kt m k x => vMapput kt (ev tm m) (ev tm k) (ev tm x) hp fun hp' => K (.v undef) hp' M
  | _ => False

/-- What one operation of the machine may be asked to show. -/
def OpWp (P : Program) (o : Oper) (a : Act) (w : World) (R : Value → World → Prop) : Prop :=
  ∀ (K : Act → World → Prop) (Q : Exit → Act → World → Prop), (∀ v w', R v w' → K (a.put o.dst v) w') → o.wp P a w K Q

theorem OpWp.of_value {P : Program} {o : Oper} {a : Act} {w w' : World} {v : Value} {R : Value → World → Prop} (h : (execOp a.eval o).run P w = .ok (.value v) w') (hr : R v w') : OpWp P o a w R := fun K Q hk => by
  unfold Oper.wp
  rw [h]
  exact hk _ _ hr
theorem OpWp.of_skip {P : Program} {o : Oper} {a : Act} {w w' : World} {R : Value → World → Prop} (h : (execOp a.eval o).run P w = .ok .skip w') (hr : R undef w') : OpWp P o a w R := fun K Q hk => by
  unfold Oper.wp
  rw [h]
  exact hk _ _ hr
theorem OpWp.of_enter {P : Program} {o : Oper} {a : Act} {w w' : World} {f : FuncId} {args : Array Value} {R : Value → World → Prop} (h : (execOp a.eval o).run P w = .ok (.enter f args) w')
    (hr : Calls P f args w' fun e w'' => ∃ v, e = .returned v ∧ R v w'') : OpWp P o a w R := fun K Q hk => by
  unfold Oper.wp
  rw [h]
  refine hr.mono fun e w'' ⟨v, he, hv⟩ => ?_
  subst he
  exact hk _ _ hv

theorem Post.same {K : SV → List Ent → HL → Prop} {ρ : Nat → Loc} {hp : List Ent} {M F : HL} {w : World} (H : Holds ρ hp M F w) {sv : SV} {v : Value} (h : K sv hp M) (hd : Den ρ sv v) : Post K hp.length ρ M F w v w :=
  ⟨sv, ρ, hp, M, F, h, Nat.le_refl _, Ext.refl _ _, H, Gr.refl M F, Same.refl w, hd⟩

/-- An operation that looks at no memory. -/
def POk (P : Program) (o : Oper) (a : Act) (ρ : Nat → Loc) (Kv : SV → Prop) : Prop :=
  ∃ v sv, (∀ w, (execOp a.eval o).run P w = .ok (.value v) w) ∧ Kv sv ∧ Den ρ sv v
theorem POk.mk' {P : Program} {o : Oper} {a : Act} {ρ : Nat → Loc} {Kv : SV → Prop} {v : Value} {sv : SV} (h1 : ∀ w, (execOp a.eval o).run P w = .ok (.value v) w) (h2 : Kv sv) (h3 : Den ρ sv v) : POk P o a ρ Kv := ⟨v, sv, h1, h2, h3⟩
theorem POk.op {P : Program} {o : Oper} {a : Act} {ρ : Nat → Loc} {K : SV → List Ent → HL → Prop} {hp : List Ent} {M F : HL} {w : World} (h : POk P o a ρ fun v => K v hp M) (H : Holds ρ hp M F w) : OpWp P o a w (Post K hp.length ρ M F w) := by
  obtain ⟨v, sv, h1, h2, h3⟩ := h
  exact .of_value (h1 w) (.same H h2 h3)

def grow (ρ : Nat → Loc) (k : Nat) (l : Loc) : Nat → Loc := fun n => if n = k then l else ρ n
theorem grow_self (ρ : Nat → Loc) (k : Nat) (l : Loc) : grow ρ k l k = l := by simp [grow]
theorem grow_ne (ρ : Nat → Loc) {k n : Nat} (l : Loc) (h : n ≠ k) : grow ρ k l n = ρ n := by simp [grow, h]
theorem grow_ext (ρ : Nat → Loc) (k : Nat) (l : Loc) : Ext k ρ (grow ρ k l) := fun n hn => grow_ne ρ l (by omega)

/-- A new block under a new name. -/
theorem Holds.alloc {ρ : Nat → Loc} {hp : List Ent} {M F : HL} {w w' : World} (H : Holds ρ hp M F w) {o : Obj} (hh : w'.heap = w.heap.push o) {e : Ent} {base cap : Nat}
    (hE : EntOK (grow ρ hp.length (some (w.heap.size, base, cap))) M w' hp.length e) (hS : ∀ c ba ca, e.own = true → Lies (some (w.heap.size, base, cap)) e c ba ca → c = w.heap.size := by intro c ba ca _ h; simp [Lies] at h; exact h.1.symm) : Holds (grow ρ hp.length (some (w.heap.size, base, cap))) (hp ++ [e]) M F w' := by
  have hold : ∀ k, k < w.heap.size → w'.heap[k]? = w.heap[k]? := fun k hk => by rw [hh, Array.getElem?_push, if_neg (by omega)]
  have hFs : ∀ k o', F k = some o' → k < w.heap.size := fun k o' hk => (Array.getElem?_eq_some_iff.1 (H.frm k o' hk)).1
  have hcase : ∀ m c, owns (grow ρ hp.length (some (w.heap.size, base, cap))) (hp ++ [e]) m c → (m = hp.length ∧ c = w.heap.size) ∨ (m < hp.length ∧ owns ρ hp m c) := by
    rintro m c ⟨e1, ba, ca, h1, h2, h3⟩
    by_cases hm : m = hp.length
    · subst hm
      rw [grow_self] at h3
      rw [List.getElem?_append_right (Nat.le_refl _)] at h1
      simp at h1
      subst h1
      exact .inl ⟨rfl, hS c ba ca h2 h3⟩
    · have hm' : m < hp.length := by
        have := (List.getElem?_eq_some_iff.1 h1).1
        simp at this; omega
      rw [grow_ne _ _ hm] at h3
      rw [List.getElem?_append_left hm'] at h1
      exact .inr ⟨hm', e1, ba, ca, h1, h2, h3⟩
  refine ⟨fun m e1 h1 => ?_, fun m k c h1 h2 => ?_, fun m c h1 => ?_, fun k o' hk => ?_, H.sub, fun m hm => ?_⟩
  · by_cases hm : m = hp.length
    · subst hm
      rw [List.getElem?_append_right (Nat.le_refl _)] at h1
      simp at h1
      subst h1
      exact hE
    · have hm' : m < hp.length := by
        have := (List.getElem?_eq_some_iff.1 h1).1
        simp at this; omega
      rw [List.getElem?_append_left hm'] at h1
      refine (H.ent m e1 h1).keep (H.le (grow_ext _ _ _)) (grow_ne _ _ hm) (FLe.refl M) fun c ba ca h2 h3 => ?_
      exact hold c (owns_lt H ⟨e1, ba, ca, h1, h2, h3⟩)
  · rcases hcase m c h1 with ⟨hm, hc⟩ | ⟨hm, h1⟩ <;> rcases hcase k c h2 with ⟨hk, hc'⟩ | ⟨hk, h2⟩
    · exact hm.trans hk.symm
    · have := owns_lt H h2; omega
    · have := owns_lt H h1; omega
    · exact H.sep m k c h1 h2
  · rcases hcase m c h1 with ⟨rfl, rfl⟩ | ⟨hm, h1⟩
    · cases hf : F w.heap.size with
      | none => rfl
      | some o' => have := hFs _ _ hf; omega
    · exact H.out m c h1
  · rw [hold k (hFs k o' hk)]
    exact H.frm k o' hk
  · rw [grow_ne _ _ (by simp at hm; omega)]
    exact H.dom m (by simp at hm; omega)

/-- A new name for no block: an empty row. -/
theorem Holds.nilRow {ρ : Nat → Loc} {hp : List Ent} {M F : HL} {w : World} (H : Holds ρ hp M F w) (own : Bool) (e : TypeId) (ck : List CK) (hc : 0 < ck.length) : Holds ρ (hp ++ [.row own e ck []]) M F w := by
  have hcase : ∀ m c, owns ρ (hp ++ [.row own e ck []]) m c → owns ρ hp m c := by
    rintro m c ⟨e1, ba, ca, h1, h2, h3⟩
    by_cases hm : m < hp.length
    · rw [List.getElem?_append_left hm] at h1
      exact ⟨e1, ba, ca, h1, h2, h3⟩
    · have hm' : m = hp.length := by
        have := (List.getElem?_eq_some_iff.1 h1).1
        simp at this; omega
      subst hm'
      rw [List.getElem?_append_right (Nat.le_refl _)] at h1
      simp at h1
      subst h1
      rw [H.dom hp.length (Nat.le_refl _)] at h3; cases h3
  refine ⟨fun m e1 h1 => ?_, fun m k c h1 h2 => H.sep m k c (hcase _ _ h1) (hcase _ _ h2), fun m c h1 => H.out m c (hcase _ _ h1), H.frm, H.sub, fun m hm => H.dom m (by simp at hm; omega)⟩
  by_cases hm : m < hp.length
  · rw [List.getElem?_append_left hm] at h1
    exact H.ent m e1 h1
  · have hm' : m = hp.length := by
      have := (List.getElem?_eq_some_iff.1 h1).1
      simp at this; omega
    subst hm'
    rw [List.getElem?_append_right (Nat.le_refl _)] at h1
    simp at h1
    subst h1
    simp only [EntOK, H.dom hp.length (Nat.le_refl _)]
    exact ⟨hc, trivial⟩
end Go.Vc
