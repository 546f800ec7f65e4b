/-
  Symbolic execution, part I: append.
-/
import Derived.Test.YtkfkoldaeplckaaDoorVch
import Derived.Laws.StructEq
import Derived.MapKept
import Derived.Carry
set_option linter.unusedSimpArgs false
set_option linter.unusedVariables false

namespace Go.Vc

theorem flatten_replicate_get {z : List Value} (hz : 0 < z.length) : ∀ (n q f : Nat), q < n → f < z.length → (List.replicate n z).flatten[q * z.length + f]? = z[f]?
  | 0, q, f, h, _ => by omega
  | n + 1, 0, f, _, hf => by
    rw [List.replicate_succ, List.flatten_cons, Nat.zero_mul, Nat.zero_add, List.getElem?_append_left hf]
  | n + 1, q + 1, f, h, hf => by
    rw [List.replicate_succ, List.flatten_cons, List.getElem?_append_right (by rw [Nat.succ_mul]; omega), show (q + 1) * z.length + f - z.length = q * z.length + f by rw [Nat.succ_mul]; omega]
    exact flatten_replicate_get hz n q f (by omega) hf
theorem zeroCells_list (z : Array Value) (hz : 0 < z.size) (n : Nat) : (Builtin.zeroCells z n).toList = (List.replicate n z.toList).flatten := by
  apply List.ext_getElem?
  intro j
  have hl : (List.replicate n z.toList).flatten.length = n * z.size := by simp
  by_cases hj : j < n * z.size
  · have hq : j / z.size < n := Nat.div_lt_of_lt_mul (by rwa [Nat.mul_comm])
    have hf : j % z.size < z.size := Nat.mod_lt _ hz
    have he : j = j / z.size * z.size + j % z.size := by rw [Nat.mul_comm]; exact (Nat.div_add_mod j z.size).symm
    have := flatten_replicate_get (z := z.toList) (by simpa using hz) n (j / z.size) (j % z.size) hq (by simpa using hf)
    simp only [Array.length_toList] at this
    rw [← he] at this
    rw [this]
    have hf' : j % z.size < z.size := hf
    simp [Builtin.zeroCells, hj, getElem!_pos, hf']
  · rw [List.getElem?_eq_none (by simp [Builtin.zeroCells]; omega), List.getElem?_eq_none (by rw [hl]; omega)]

theorem flatten_len {w : Nat} : ∀ (rows : List (List Value)), (∀ r ∈ rows, r.length = w) → rows.flatten.length = rows.length * w
  | [], _ => by simp
  | r :: rows, h => by
    rw [List.flatten_cons, List.length_append, h r (by simp), flatten_len rows (fun r' hr' => h r' (by simp [hr'])), List.length_cons, Nat.succ_mul]
    omega

theorem flatten_inv {w : Nat} (hw : 0 < w) (rows : List (List Value)) (h : ∀ r ∈ rows, r.length = w) {t : Nat} {x : Value} (ht : rows.flatten[t]? = some x) :
    ∃ q f r, t = q * w + f ∧ f < w ∧ rows[q]? = some r ∧ r[f]? = some x := by
  have hlt : t < rows.length * w := by rw [← flatten_len rows h]; exact (List.getElem?_eq_some_iff.1 ht).1
  have hq : t / w < rows.length := Nat.div_lt_of_lt_mul (by rwa [Nat.mul_comm])
  have hf : t % w < w := Nat.mod_lt _ hw
  have he : t = t / w * w + t % w := by rw [Nat.mul_comm]; exact (Nat.div_add_mod t w).symm
  obtain ⟨r, hr⟩ : ∃ r, rows[t / w]? = some r := ⟨_, List.getElem?_eq_getElem hq⟩
  have hrl := h r (List.mem_of_getElem? hr)
  obtain ⟨y, hy⟩ : ∃ y, r[t % w]? = some y := ⟨_, List.getElem?_eq_getElem (by omega)⟩
  have := flatten_get rows h (t / w) (t % w) r y hr hy hf
  rw [← he, ht] at this
  cases this
  exact ⟨t / w, t % w, r, he, hf, hr, hy⟩

/-- What fits, of rows. -/
def RowsFit (ck : List CK) (rows : List (List Value)) : Prop :=
  ∀ (i : Nat) (r : List Value), rows[i]? = some r → r.length = ck.length ∧ ∀ (f : Nat) (k : CK) (x : Value), ck[f]? = some k → r[f]? = some x → k.fits x

theorem RowsFit.mem {ck : List CK} {rows : List (List Value)} (h : RowsFit ck rows) : ∀ r ∈ rows, r.length = ck.length := fun r hr => by
  obtain ⟨i, hi⟩ := List.getElem?_of_mem hr
  exact (h i r hi).1
theorem RowsFit.one {ck : List CK} {rows : List (List Value)} (hw : 0 < ck.length) (h : RowsFit ck rows) : ∀ x ∈ rows.flatten, x.oneCell' = true := fun x hx => by
  obtain ⟨t, ht⟩ := List.getElem?_of_mem hx
  obtain ⟨q, f, r, _, hf, hr, hx⟩ := flatten_inv hw rows h.mem ht
  exact ((h q r hr).2 f _ x (List.getElem?_eq_getElem hf) hx).one
theorem RowsFit.append {ck : List CK} {a b : List (List Value)} (h : RowsFit ck a) (h' : RowsFit ck b) : RowsFit ck (a ++ b) := fun i r hr => by
  rcases Nat.lt_or_ge i a.length with hi | hi
  · rw [List.getElem?_append_left hi] at hr; exact h i r hr
  · rw [List.getElem?_append_right hi] at hr; exact h' _ r hr
theorem RowsFit.part {ck : List CK} {a : List (List Value)} (h : RowsFit ck a) (i n : Nat) : RowsFit ck ((a.drop i).take n) := fun j r hr => by
  rw [List.getElem?_take] at hr
  split at hr
  · rw [List.getElem?_drop] at hr; exact h _ r hr
  · cases hr
theorem RowsFit.nil (ck : List CK) : RowsFit ck [] := fun i r hr => by simp at hr
theorem RowAt.fit {ck : List CK} {cur : Array Value} {base : Nat} {rows : List (List Value)} (h : RowAt ck cur base rows) : RowsFit ck rows := fun i r hr =>
  ⟨(h i r hr).1, fun f k x hk hx => ((h i r hr).2 f k x hk hx).2⟩

theorem row_fit {ρ : Nat → Loc} {hp : List Ent} {M F : HL} {w : World} (H : Holds ρ hp M F w) {n : Nat} {own : Bool} {e : TypeId} {ck : List CK} {rows : List (List Value)}
    (he : hp[n]? = some (.row own e ck rows)) : 0 < ck.length ∧ RowsFit ck rows := by
  have h := H.ent n _ he
  simp only [EntOK] at h
  refine ⟨h.1, ?_⟩
  cases hρ : ρ n with
  | none => rw [hρ] at h; rw [h.2]; exact RowsFit.nil ck
  | some l =>
    obtain ⟨b, base, cap⟩ := l
    rw [hρ] at h
    obtain ⟨_, cur, fr, _, _, h3⟩ := h
    exact h3.fit

/-- The cells of a part of a row, one after the other. -/
theorem row_cells {ρ : Nat → Loc} {hp : List Ent} {M F : HL} {w : World} (H : Holds ρ hp M F w) {m : Nat} {own : Bool} {e : TypeId} {ck : List CK} {rows : List (List Value)}
    (he : hp[m]? = some (.row own e ck rows)) {b base cap : Nat} (hρ : ρ m = some (b, base, cap)) (j n : Nat) (t : Nat) (x : Value) (ht : ((rows.drop j).take n).flatten[t]? = some x) :
    w.cell? ((⟨b, base + j * ck.length, none⟩ : Addr).add t) = some x := by
  obtain ⟨hw, hf⟩ := row_fit H he
  obtain ⟨q, f, r, rfl, hfl, hr, hx⟩ := flatten_inv hw _ (hf.part j n).mem ht
  rw [List.getElem?_take] at hr
  split at hr
  case isFalse => cases hr
  rw [List.getElem?_drop] at hr
  have hi : j + q < rows.length := (List.getElem?_eq_some_iff.1 hr).1
  have := (row_cell H he hρ hi (List.getElem?_eq_getElem hfl)).1
  rw [add_lit, show base + j * ck.length + (q * ck.length + f) = base + ((j + q) * ck.length + f) by rw [Nat.add_mul]; omega, this]
  simp [cellAt, List.getD, hr, hx]

section
variable {P : Program} (w : World) (t u ty e : TypeId) (i : TypeInfo) (z : Value)
variable (ht : P.underlying t = some (.slice e)) (hu : ∃ e', P.underlying u = some (.slice e')) (hi : P.info? e = some i) (hz : i.zero = some z)
include ht hu hi

theorem app_room (ad : Option Addr) (sLen sCap : Nat) (xa : Option Addr) (n c : Nat) (news : List Value) (hf : (Builtin.firstCells i.size n (.slice xa n c)).run P w = .ok news.toArray w) (hroom : sLen + n ≤ sCap) (w' : World)
    (hst : ∀ a', ad = some a' → (storeCells (a'.add (sLen * i.size)) news).run P w = .ok () w') (hnone : ad = none → w' = w) :
    (Builtin.append_ #[t, u] ty #[.slice ad sLen sCap, .slice xa n c]).run P w = .ok (.slice ad (sLen + n) sCap) w' := by
  obtain ⟨e', hu⟩ := hu
  cases ad with
  | none => rw [hnone rfl]; simp [Builtin.append_, run_underlying ht, run_underlying hu, sizeOf, typeInfo, hi, Builtin.lenOf, hroom, hf]
  | some a' =>
    have := hst a' rfl
    simp [Builtin.append_, run_underlying ht, run_underlying hu, sizeOf, typeInfo, hi, Builtin.lenOf, hroom, hf, this]

include hz in
theorem app_grow (ad : Option Addr) (sLen sCap : Nat) (xa : Option Addr) (n c : Nat) (olds news : List Value) (ho : (Builtin.firstCells i.size sLen (.slice ad sLen sCap)).run P w.drew = .ok olds.toArray w.drew)
    (hf : (Builtin.firstCells i.size n (.slice xa n c)).run P w.drew = .ok news.toArray w.drew) (hg : sCap < sLen + n) (h63 : ((sLen + n : Nat) : Int) ≤ 9223372036854775807) (hfit : Builtin.nextslicecap (sLen + n) sCap * i.bytes ≤ 281474976710656) :
    (Builtin.append_ #[t, u] ty #[.slice ad sLen sCap, .slice xa n c]).run P w =
      .ok (.slice (some ⟨w.heap.size, 0, none⟩) (sLen + n) (grownCap w (sLen + n) sCap e))
        (w.drew.alloc (.cells (olds.toArray ++ news.toArray ++ Builtin.zeroCells z.cells (grownCap w (sLen + n) sCap e - (sLen + n))) e)) := by
  obtain ⟨e', hu⟩ := hu
  have hn : ¬ (sLen + n ≤ sCap) := by omega
  have h63' : ¬ (9223372036854775807 < ((sLen : Int) + (n : Int))) := by omega
  have h48' : ¬ (281474976710656 < Builtin.nextslicecap (sLen + n) sCap * i.bytes) := by omega
  simp [Builtin.append_, run_underlying ht, run_underlying hu, sizeOf, typeInfo, zeroValue, hi, hz, Builtin.lenOf, hn, h63', h48', Question.forced, hf, ho, newRow, grownCap]
  congr 2
  apply Array.ext'
  simp [List.append_assoc]
end

theorem app_growz {P : Program} (w : World) (t u ty e : TypeId) (i : TypeInfo) (z : Value) (ht : P.underlying t = some (.slice e)) (hu : ∃ k, P.underlying u = some (.int k)) (hi : P.info? e = some i) (hz : i.zero = some z)
    (ad : Option Addr) (k : IntKind) (n : Nat) (hn0 : 0 < n) (hs : 0 < i.size) (h63 : (n : Int) ≤ 9223372036854775807) (hb : (n : Int) * i.bytes ≤ 281474976710656) (hfit : Builtin.nextslicecap n 0 * i.bytes ≤ 281474976710656) :
    (Builtin.append_ #[t, u] ty #[.slice ad 0 0, .int k (n : Int)]).run P w =
      .ok (.slice (some ⟨w.heap.size, 0, none⟩) n (grownCap w n 0 e)) (w.drew.alloc (.cells (Builtin.zeroCells z.cells n ++ Builtin.zeroCells z.cells (grownCap w n 0 e - n)) e)) := by
  obtain ⟨k', hu⟩ := hu
  have hw : IntKind.i64.wrap (n : Int) = n := by rw [IntKind.wrap_i64]; omega
  have h1 : ¬ ((n : Int) < 0) := by omega
  have h2 : ¬ (281474976710656 < (n : Int) * (i.bytes : Int)) := by omega
  have h3 : ¬ (n ≤ 0) := by omega
  have h4 : ¬ (9223372036854775807 < (n : Int)) := by omega
  have h5 : ¬ (281474976710656 < Builtin.nextslicecap n 0 * i.bytes) := by omega
  have h6 : ¬ (n * i.size = 0) := Nat.ne_of_gt (Nat.mul_pos hn0 hs)
  have hf : (Builtin.firstCells i.size 0 (.slice ad 0 0)).run P w.drew = .ok #[] w.drew := by
    cases ad <;> simp [Builtin.firstCells, loadCells, loadCellsFrom]
  have h7 : ¬ n = 0 := by omega
  have h8 : ¬ i.size = 0 := by omega
  simp [Builtin.append_, run_underlying ht, run_underlying hu, sizeOf, typeInfo, zeroValue, hi, hz, asInt, asIntOf, hw, h1, h2, h3, h4, h5, h6, h7, h8, Question.forced, hf, newRow, grownCap]
theorem first_some {P : Program} {w : World} {size n : Nat} {b : Addr} {len cap : Nat} {cs : List Value} (hl : cs.length = n * size) (h : ∀ (j : Nat) (v : Value), cs[j]? = some v → w.cell? (b.add j) = some v) :
    (Builtin.firstCells size n (.slice (some b) len cap)).run P w = .ok cs.toArray w := run_firstCells_some (P := P) w size n b len cap cs hl h
theorem first_zero {P : Program} {w : World} {size len cap : Nat} (ad : Option Addr) : (Builtin.firstCells size 0 (.slice ad len cap)).run P w = .ok #[] w := by
  cases ad <;> simp [Builtin.firstCells, loadCells, loadCellsFrom]

/-- An entry is let go. -/
theorem Holds.drop {ρ : Nat → Loc} {hp : List Ent} {M F : HL} {w : World} (H : Holds ρ hp M F w) (n : Nat) : Holds ρ (hp.set n .gone) M F w := by
  have hown : ∀ m c, owns ρ (hp.set n .gone) m c → owns ρ hp m c := by
    rintro m c ⟨e1, ba, ca, h1, h2, h3⟩
    by_cases hm : n = m
    · subst hm
      rw [List.getElem?_set] at h1
      simp only [if_true] at h1
      split at h1
      · cases h1; cases h2
      · cases h1
    · rw [List.getElem?_set_ne hm] at h1
      exact ⟨e1, ba, ca, h1, h2, h3⟩
  refine ⟨fun m e1 h1 => ?_, fun m k c h1 h2 => H.sep m k c (hown _ _ h1) (hown _ _ h2), fun m c h1 => H.out m c (hown _ _ h1), H.frm, H.sub, fun m hm => H.dom m (by simpa using hm)⟩
  by_cases hm : n = m
  · subst hm
    rw [List.getElem?_set] at h1
    simp only [if_true] at h1
    split at h1
    · cases h1; trivial
    · cases h1
  · rw [List.getElem?_set_ne hm] at h1
    exact H.ent m e1 h1

/-- A row of one's own goes on under a new name. -/
theorem Holds.rebase {ρ : Nat → Loc} {hp : List Ent} {M F : HL} {w : World} (H : Holds ρ hp M F w) {n : Nat} {e : Ent} (he : hp[n]? = some e) (ho : e.own1 = true) {b base cap base' cap' : Nat} (hρ : ρ n = some (b, base, cap))
    {cs' : Array Value} {e' : Ent} (hE : EntOK (grow ρ hp.length (some (b, base', cap'))) M (w.setRow b cs') hp.length e') (ho' : e'.own1 = true := by rfl) :
    Holds (grow ρ hp.length (some (b, base', cap'))) (hp.set n .gone ++ [e']) M F (w.setRow b cs') := by
  have hn : n < hp.length := (List.getElem?_eq_some_iff.1 he).1
  have hnb : owns ρ hp n b := ⟨e, base, cap, he, own1_own ho, (own1_lies ho).2 hρ⟩
  have hlt := owns_lt H hnb
  have hcase : ∀ m c, owns (grow ρ hp.length (some (b, base', cap'))) (hp.set n .gone ++ [e']) m c → (m = hp.length ∧ c = b) ∨ (m < hp.length ∧ m ≠ n ∧ owns ρ hp m c) := by
    rintro m c ⟨e1, ba, ca, h1, h2, h3⟩
    by_cases hm : m = hp.length
    · subst hm
      rw [grow_self] at h3
      rw [List.getElem?_append_right (by simp)] at h1
      simp at h1
      subst h1
      have h3 := (own1_lies ho').1 h3
      cases h3
      exact .inl ⟨rfl, rfl⟩
    · have hm' : m < hp.length := by
        have := (List.getElem?_eq_some_iff.1 h1).1
        simp at this; omega
      rw [grow_ne _ _ hm] at h3
      rw [List.getElem?_append_left (by simpa using hm')] at h1
      by_cases hmn : n = m
      · subst hmn
        rw [List.getElem?_set_self hm'] at h1
        cases h1; cases h2
      · rw [List.getElem?_set_ne hmn] at h1
        exact .inr ⟨hm', fun h => hmn h.symm, e1, ba, ca, h1, h2, h3⟩
  refine ⟨fun m e1 h1 => ?_, fun m k c h1 h2 => ?_, fun m c h1 => ?_, fun k o' hk => ?_, H.sub, fun m hm => ?_⟩
  · by_cases hm : m = hp.length
    · subst hm
      rw [List.getElem?_append_right (by simp)] at h1
      simp at h1
      subst h1
      exact hE
    · have hm' : m < hp.length := by
        have := (List.getElem?_eq_some_iff.1 h1).1
        simp at this; omega
      rw [List.getElem?_append_left (by simpa using hm')] at h1
      by_cases hmn : n = m
      · subst hmn
        rw [List.getElem?_set_self hm'] at h1
        cases h1
        trivial
      · rw [List.getElem?_set_ne hmn] at h1
        refine (H.ent m e1 h1).keep (H.le (grow_ext _ _ _)) (grow_ne _ _ hm) (FLe.refl M) fun c ba ca h2 h3 => ?_
        refine setRow_other w b c cs' fun hc => hmn ?_
        subst hc
        exact H.sep n m c hnb ⟨e1, ba, ca, h1, h2, h3⟩
  · rcases hcase m c h1 with ⟨hm, hc⟩ | ⟨hm, hmn, h1'⟩ <;> rcases hcase k c h2 with ⟨hk, hc'⟩ | ⟨hk, hkn, h2'⟩
    · exact hm.trans hk.symm
    · subst hc; exact absurd (H.sep _ _ _ h2' hnb) hkn
    · subst hc'; exact absurd (H.sep _ _ _ h1' hnb) hmn
    · exact H.sep m k c h1' h2'
  · rcases hcase m c h1 with ⟨hm, hc⟩ | ⟨hm, hmn, h1⟩
    · subst hc; exact H.out n c hnb
    · exact H.out m c h1
  · rw [setRow_other w b k cs' ?_]
    · exact H.frm k o' hk
    · intro hc
      subst hc
      rw [H.out n k hnb] at hk
      cases hk
  · rw [grow_ne _ _ (by simp at hm; omega)]
    exact H.dom m (by simp at hm; omega)

section
variable {P : Program} {Γ : Nat → Option Trans} {tm : List SV} {hp : List Ent} {M F : HL} {K : SV → List Ent → HL → Prop} {ρ : Nat → Loc} {w : World} {a : Act}
variable (H : Holds ρ hp M F w) (hD : DenL ρ tm a.tmps.toList)

/-- What 'vRows' says of the appended slice. -/
theorem vRows_spec {x : SV} {ck : List CK} {K' : Nat → List (List Value) → Prop} {y : Value} (H : Holds ρ hp M F w) (hw : 0 < ck.length) (hd : Den ρ x y) (h : vRows x ck hp M K') :
    ∃ n news ad c, K' n news ∧ y = .slice ad n c ∧ news.length = n ∧ RowsFit ck news ∧
      (n = 0 ∨ ∃ b, ad = some b ∧ ∀ (j : Nat) (v : Value), news.flatten[j]? = some v → w.cell? (b.add j) = some v) := by
  unfold vRows at h
  split at h
  · rename_i hn
    obtain ⟨ad, rfl⟩ := isNilS_den hn hd
    exact ⟨0, [], ad, 0, h, rfl, rfl, RowsFit.nil ck, .inl rfl⟩
  · split at h
    case h_3 => exact h.elim
    case h_2 =>
      rename_i y' _
      obtain ⟨e, rows, hR, h⟩ := h
      obtain ⟨N, hR, hNw⟩ := RowsInE.spec H hR
      simp only [Den] at hd
      obtain ⟨rfl, ad, n, c, rfl, _, _⟩ := hd
      have hn := hR.len
      simp only [slen] at hn
      subst hn
      refine ⟨_, rows, ad, c, h, rfl, rfl, ?_, ?_⟩
      · obtain ⟨_, ⟨rfl, _⟩ | ⟨b, base, c', cur, fr, _, _, _, hr⟩⟩ := hR
        · exact RowsFit.nil ck
        · exact hr.fit
      · obtain ⟨_, ⟨rfl, _⟩ | ⟨b, base, c', cur, fr, hy, _, hM, hr⟩⟩ := hR
        · exact .inl rfl
        · cases hy
          refine .inr ⟨_, rfl, fun j v hv => ?_⟩
          obtain ⟨q, f, r, rfl, hf, hq, hx⟩ := flatten_inv hw rows hr.fit.mem hv
          rw [add_lit, cell_in (hNw _ _ hM)]
          exact ((hr q r hq).2 f _ v (List.getElem?_eq_getElem hf) hx).1
    rename_i m wd j n hnn
    split at h
    case h_2 => exact h.elim
    rename_i own e' ck' rows he
    have he := eget_ne he (by simp)
    split at h
    case h_2 => exact h.elim
    rename_i hck hwd
    have hck : ck' = ck := by simpa using hck
    subst hck
    rw [llen_eq] at hwd
    have hwd := Nat.eq_of_beq_eq_true hwd
    subst hwd
    simp only [Den] at hd
    obtain ⟨ad, c, rfl, hlc, hor⟩ := hd
    obtain ⟨hjn, h⟩ := h
    obtain ⟨_, hfit⟩ := row_fit H he
    refine ⟨n, _, ad, c, h, rfl, by simp; omega, hfit.part j n, ?_⟩
    rcases hor with rfl | ⟨b, base, cap, hρ, rfl, hcap⟩
    · exact .inl (by omega)
    · exact .inr ⟨_, rfl, row_cells H he hρ j n⟩

omit hD in
include H in
theorem append_core0 {o : Oper} {c : Call} {t u e : TypeId} {x y : Operand} {z : Value} (ho : o.op = .call c) (hc1 : c.callee = .builtin .append) (hc2 : c.args = #[x, y]) (hc3 : c.argTypes = #[t, u]) (ht : P.underlying t = some (.slice e))
    (hu : ∃ e', P.underlying u = some (.slice e')) (hz : zeroOf P e = some z) (hzs : z.cells.size = szOf P e) (hsz0 : szOf P e = (cks P e).length) (hby0 : 0 < byOf P e) (hw : 0 < (cks P e).length)
    {n : Nat} {news : List (List Value)} {xa : Option Addr} {xc : Nat} (hy : a.eval y = .slice xa n xc) (hnl : news.length = n) (hnf : RowsFit (cks P e) news)
    (hnc : n = 0 ∨ ∃ b, xa = some b ∧ ∀ (j : Nat) (v : Value), news.flatten[j]? = some v → w.cell? (b.add j) = some v) {sx : SV} (hxd : Den ρ sx (a.eval x))
    (h : vApp0 e (cks P e) (byOf P e) n news sx hp M fun v hp' => K v hp' M) : OpWp P o a w (Post K hp.length ρ M F w) := by
  unfold zeroOf at hz
  obtain ⟨ti, hti, hz'⟩ := Option.bind_eq_some_iff.1 hz
  have hsz : szOf P e = ti.size := by simp [szOf, hti]
  have hby : byOf P e = ti.bytes := by simp [byOf, hti]
  have hts : ti.size = (cks P e).length := by omega
  have run : ∀ {v : Value} {w' : World}, (Builtin.append_ #[t, u] o.type #[a.eval x, a.eval y]).run P w = .ok v w' → (execOp a.eval o).run P w = .ok (.value v) w' := by
    intro v w' hr
    simp only [execOp, ho, resolve, hc1, hc2, hc3, invoke, builtin, Sem.run_bind, Sem.run_pure, Result.andThen_ok, List.map_toArray, List.map_cons, List.map_nil, hr]
  unfold vApp0 at h
  have hnfl : news.flatten.length = n * ti.size := by rw [flatten_len news hnf.mem, hnl, hts]
  have hfirst : ∀ w', (∀ ad v, w.cell? ad = some v → w'.cell? ad = some v) → (Builtin.firstCells ti.size n (.slice xa n xc)).run P w' = .ok news.flatten.toArray w' := by
    intro w' hc'
    rcases hnc with rfl | ⟨b, rfl, hcell⟩
    · have : news = [] := List.eq_nil_of_length_eq_zero hnl
      subst this
      simpa using first_zero (P := P) (w := w') (size := ti.size) (len := 0) (cap := xc) xa
    · exact first_some hnfl fun j v hv => hc' _ _ (hcell j v hv)
  have hsame : ∀ ad v, w.cell? ad = some v → w.cell? ad = some v := fun _ _ h => h
  have hdrew : ∀ ad v, w.cell? ad = some v → w.drew.cell? ad = some v := fun _ _ h => h
  -- a new block
  have fresh : ∀ (ad : Option Addr) (sLen sCap : Nat) (olds : List (List Value)) (hp1 : List Ent), a.eval x = .slice ad sLen sCap → hp1.length = hp.length → Holds ρ hp1 M F w → olds.length = sLen → RowsFit (cks P e) olds →
      (Builtin.firstCells ti.size sLen (.slice ad sLen sCap)).run P w.drew = .ok olds.flatten.toArray w.drew → sCap < sLen + n → (sLen + n) * ti.bytes ≤ 140737488355328 →
      K (.slc hp.length (cks P e).length 0 (sLen + n)) (hp1 ++ [.row true e (cks P e) (olds ++ news)]) M → OpWp P o a w (Post K hp.length ρ M F w) := by
    intro ad sLen sCap olds hp1 hx hl1 H1 hol hof hfo hg hb hK
    have h63 : sLen + n ≤ 140737488355328 := Nat.le_trans (Nat.le_mul_of_pos_right _ (by omega)) hb
    have hr := app_grow (P := P) w t u o.type e ti z ht hu hti hz' ad sLen sCap xa n xc olds.flatten news.flatten hfo (hfirst w.drew hdrew) hg (by omega) (growslice_fits hg hb)
    rw [← hx, ← hy] at hr
    have hge := grownCap_ge w (sLen + n) sCap e
    have hcm := grownCap_le_maxLen w (sLen + n) sCap e (by unfold maxLen; omega)
    have hofl : olds.flatten.length = sLen * ti.size := by rw [flatten_len olds hof.mem, hol, hts]
    have hcsz : (olds.flatten.toArray ++ news.flatten.toArray ++ Builtin.zeroCells z.cells (grownCap w (sLen + n) sCap e - (sLen + n))).size = grownCap w (sLen + n) sCap e * (cks P e).length := by
      rw [Array.size_append, Array.size_append, List.size_toArray, List.size_toArray, size_zeroCells, hofl, hnfl, hzs, hsz, ← Nat.add_mul, ← Nat.add_mul, ← hsz0, hsz]
      congr 1
      omega
    have H2 := H1.newRow (w' := w.drew.alloc (.cells (olds.flatten.toArray ++ news.flatten.toArray ++ Builtin.zeroCells z.cells (grownCap w (sLen + n) sCap e - (sLen + n))) e)) (rows := olds ++ news) rfl hw hcm hcsz (by simp [hol, hnl]; omega)
      (rowAt_flatten (hof.append hnf) (fun j v hj => by
        rw [Nat.zero_add]
        rw [List.flatten_append] at hj
        have hjl := (List.getElem?_eq_some_iff.1 hj).1
        rw [← Array.getElem?_toList]
        simp only [Array.toList_append, List.toList_toArray]
        rw [List.getElem?_append_left (by simpa using hjl)]
        exact hj))
    rw [hl1] at H2
    refine .of_value (run hr) ⟨_, grow ρ hp.length (some (w.heap.size, 0, grownCap w (sLen + n) sCap e)), _, M, F, hK, by simp [hl1], grow_ext _ _ _, H2, Gr.refl M F, ⟨rfl, rfl, rfl, by simp⟩, ?_⟩
    exact ⟨_, _, rfl, hge, .inr ⟨w.heap.size, 0, _, grow_self _ _ _, by simp, by omega⟩⟩
  -- nothing is there, nothing is added
  have empty : ∀ (ad : Option Addr) (hp1 : List Ent), a.eval x = .slice ad 0 0 → hp1.length = hp.length → Holds ρ hp1 M F w → n = 0 →
      K (.slc hp.length (cks P e).length 0 0) (hp1 ++ [.row true e (cks P e) []]) M → OpWp P o a w (Post K hp.length ρ M F w) := by
    intro ad hp1 hx hl1 H1 hn hK
    subst hn
    have : news = [] := List.eq_nil_of_length_eq_zero hnl
    subst this
    have hr := app_room (P := P) w t u o.type e ti ht hu hti ad 0 0 xa 0 xc [] (by simpa using hfirst w hsame) (Nat.le_refl _) w (fun a' _ => rfl) (fun _ => rfl)
    rw [← hx, ← hy] at hr
    exact .of_value (run hr) ⟨_, ρ, _, M, F, hK, by simp [hl1], Ext.refl _ _, H1.nilRow true e (cks P e) hw, Gr.refl M F, Same.refl w, ⟨ad, 0, hx, Nat.le_refl _, .inl rfl⟩⟩
  -- in place
  have inpl : ∀ (sv : SV) (an i len cp b base cap : Nat) (rows : List (List Value)), hp[an]? = some (.row true e (cks P e) rows) → ρ an = some (b, base, cap) → i + len ≤ rows.length → i + cp ≤ cap →
      a.eval x = .slice (some ⟨b, base + i * (cks P e).length, none⟩) len cp → len + n ≤ cp → K sv ((hp.set an .gone) ++ [.row true e (cks P e) ((rows.drop i).take len ++ news)]) M →
      (∀ ρ' : Nat → Loc, ρ' hp.length = some (b, base + i * (cks P e).length, cap - i) → Den ρ' sv (.slice (some ⟨b, base + i * (cks P e).length, none⟩) (len + n) cp)) → OpWp P o a w (Post K hp.length ρ M F w) := by
    intro sv an i len cp b base cap rows hent hρ hil hcap hx hroom h hden
    obtain ⟨_, hfit⟩ := row_fit H hent
    have hof := hfit.part i len
    have hol : ((rows.drop i).take len).length = len := by simp; omega
    have hocells := row_cells H hent hρ i len
    have hofl : ((rows.drop i).take len).flatten.length = len * ti.size := by rw [flatten_len _ hof.mem, hol, hts]
    have hE := H.ent an _ hent
    simp only [EntOK, hρ, if_true] at hE
    obtain ⟨_, cur, fr, ⟨hb1, hcsz, hcm⟩, hrl, hrow⟩ := hE
    have hmul : ∀ q, q ≤ cap → q * (cks P e).length ≤ cap * (cks P e).length := fun q hq => Nat.mul_le_mul_right _ hq
    have hfitn : base + i * (cks P e).length + len * ti.size + news.flatten.length ≤ cur.size := by
      rw [hnfl, hcsz, hts]
      have := hmul (i + len + n) (by omega)
      rw [Nat.add_mul, Nat.add_mul] at this
      omega
    have hst := run_storeCells_at P b (base + i * (cks P e).length + len * ti.size) e news.flatten 0 cur w hb1 (by rw [Nat.add_zero]; exact hfitn) (hnf.one hw)
    simp only [Nat.add_zero] at hst
    have hr := app_room (P := P) w t u o.type e ti ht hu hti (some ⟨b, base + i * (cks P e).length, none⟩) len cp xa n xc news.flatten (hfirst w hsame) hroom _
      (fun a' ha' => by cases ha'; rw [add_lit]; exact hst) (fun hno => by cases hno)
    rw [← hx, ← hy] at hr
    have hcs' : (cur.toList.take (base + i * (cks P e).length + len * ti.size) ++ news.flatten ++ cur.toList.drop (base + i * (cks P e).length + len * ti.size + news.flatten.length)).toArray.size = cur.size := by
      simp only [List.size_toArray, List.length_append, List.length_take, List.length_drop, Array.length_toList]; omega
    have H2 := H.rebase hent rfl hρ (base' := base + i * (cks P e).length) (cap' := cap - i) (cs' := (cur.toList.take (base + i * (cks P e).length + len * ti.size) ++ news.flatten ++ cur.toList.drop (base + i * (cks P e).length + len * ti.size + news.flatten.length)).toArray)
      (e' := .row true e (cks P e) ((rows.drop i).take len ++ news)) (by
        simp only [EntOK, grow_self, if_true]
        refine ⟨hw, _, (0, 0), ⟨setRow_heap w b cur _ e _ hb1, ?_, by omega⟩, by simp [hnl]; omega, ?_⟩
        · rw [hcs', hcsz, Nat.sub_mul]
          have := hmul i (by omega)
          omega
        · refine rowAt_flatten (hof.append hnf) fun j v hj => ?_
          rw [List.flatten_append] at hj
          simp only [List.getElem?_toArray]
          rw [take_over (by simpa using hfitn)]
          by_cases hjl : j < len * ti.size
          · rw [if_neg (by omega)]
            rw [List.getElem?_append_left (by omega)] at hj
            have h5 := hocells j v hj
            rw [add_lit, cell_in hb1] at h5
            simpa using h5
          · have hjl2 := (List.getElem?_eq_some_iff.1 hj).1
            rw [List.length_append, hofl] at hjl2
            rw [if_pos ⟨by omega, by omega⟩]
            rw [List.getElem?_append_right (by omega), hofl] at hj
            rw [← hj]
            congr 1
            omega)
    exact .of_value (run hr) ⟨_, grow ρ hp.length (some (b, base + i * (cks P e).length, cap - i)), _, M, F, h, by simp, grow_ext _ _ _, H2, Gr.refl M F, Same.setRow _ _ _, hden _ (grow_self _ _ _)⟩
  split at h
  · rename_i hnil
    obtain ⟨ad, hx⟩ := isNilS_den hnil hxd
    obtain ⟨hb, h⟩ := h
    rw [epush_iff, lenK_eq, lenK_eq, llen_eq, llen_eq] at h
    by_cases hn : n = 0
    · have : news = [] := List.eq_nil_of_length_eq_zero (by omega)
      subst this
      subst hn
      exact empty ad hp hx rfl H rfl h
    · exact fresh ad 0 0 [] hp hx rfl H rfl (RowsFit.nil _) (by simpa using first_zero (P := P) (w := w.drew) (size := ti.size) (len := 0) (cap := 0) ad) (by omega) (by rw [Nat.zero_add, ← hby]; exact hb) (by simpa using h)
  · split at h
    case h_4 => exact h.elim
    case h_2 =>
      rename_i an wd len cp _
      have hx := hxd
      simp only [Den] at hx
      obtain ⟨b, base, cap, hρ, hx, hlc, hcc⟩ := hx
      split at h
      case h_2 => exact h.elim
      rename_i e' ck' rows hent
      have hent := eget_ne hent (by simp)
      split at h
      case h_2 => exact h.elim
      rename_i hee hckk hwd
      have hee := Nat.eq_of_beq_eq_true hee
      subst hee
      have hckk : ck' = cks P e := by simpa using hckk
      subst hckk
      obtain ⟨hroom, hil, h⟩ := h
      rw [eset_iff, epush_iff, lenK_eq, lenK_eq, llen_eq, llen_eq] at h
      exact inpl (.slx hp.length (cks P e).length (len + n) cp) an 0 len cp b base cap rows hent hρ (by omega) (by omega) (by rw [hx]; simp) hroom (by rw [List.drop_zero]; exact h) fun ρ' hρ' => by simp only [Den]; exact ⟨b, base + 0 * (cks P e).length, cap - 0, hρ', rfl, hroom, by omega⟩
    case h_3 =>
      rename_i y _
      have hx := hxd
      simp only [Den] at hx
      obtain ⟨hx, _⟩ := hx
      obtain ⟨rows, hR, hsc, hn0, hb, h⟩ := h
      rw [epush_iff, lenK_eq, lenK_eq, llen_eq, llen_eq] at h
      rw [hby] at hb
      obtain ⟨h0, hR⟩ := hR
      rcases hR with ⟨rfl, ad, rfl⟩ | ⟨b, base, c, cur, fr, rfl, hlc, hM, hrow⟩
      · exact fresh ad 0 0 [] hp hx rfl H rfl (RowsFit.nil _) (by simpa using first_zero (P := P) (w := w.drew) (size := ti.size) (len := 0) (cap := 0) ad) (by omega) (by simpa using hb) (by simpa using h)
      · have hsc : c = rows.length := hsc
        subst hsc
        have hof : RowsFit (cks P e) rows := fun i r hr => ⟨(hrow i r hr).1, fun f k v hk hv => ((hrow i r hr).2 f k v hk hv).2⟩
        have hocells : ∀ (j : Nat) (v : Value), rows.flatten[j]? = some v → w.cell? ((⟨b, base, none⟩ : Addr).add j) = some v := fun j v hj => by
          obtain ⟨q, f, r, rfl, hf, hr, hv⟩ := flatten_inv hw rows hof.mem hj
          rw [add_lit, cell_in (H.frm _ _ (H.sub _ _ hM))]
          exact ((hrow q r hr).2 f _ v (List.getElem?_eq_getElem hf) hv).1
        have hofl : rows.flatten.length = rows.length * ti.size := by rw [flatten_len _ hof.mem, hts]
        exact fresh _ rows.length rows.length rows hp hx rfl H rfl hof (first_some hofl hocells) (by omega) hb h
    rename_i an wd i len _
    have hx := hxd
    simp only [Den] at hx
    obtain ⟨ad, cp, hx, hlc, hor⟩ := hx
    split at h
    case h_2 => exact h.elim
    rename_i e' ck' rows hent
    have hent := eget_ne hent (by simp)
    split at h
    case h_2 => exact h.elim
    rename_i hee hckk hwd
    have hee := Nat.eq_of_beq_eq_true hee
    subst hee
    have hckk : ck' = cks P e := by simpa using hckk
    subst hckk
    rw [llen_eq] at hwd
    have hwd := Nat.eq_of_beq_eq_true hwd
    subst hwd
    obtain ⟨hb, hil, h⟩ := h
    rw [eset_iff, epush_iff, lenK_eq, lenK_eq, llen_eq, llen_eq] at h
    obtain ⟨_, hfit⟩ := row_fit H hent
    have hof := hfit.part i len
    have hol : ((rows.drop i).take len).length = len := by simp; omega
    rw [hby] at hb
    have H1 := H.drop an
    rcases hor with rfl | ⟨b, base, cap, hρ, rfl, hcap⟩
    · obtain rfl : len = 0 := by omega
      by_cases hn : n = 0
      · have : news = [] := List.eq_nil_of_length_eq_zero (by omega)
        subst this
        subst hn
        exact empty ad _ hx (by simp) H1 rfl (by simpa using h)
      · exact fresh ad 0 0 [] _ hx (by simp) H1 rfl (RowsFit.nil _) (by simpa using first_zero (P := P) (w := w.drew) (size := ti.size) (len := 0) (cap := 0) ad) (by omega) hb (by simpa using h)
    · have hocells := row_cells H hent hρ i len
      have hofl : ((rows.drop i).take len).flatten.length = len * ti.size := by rw [flatten_len _ hof.mem, hol, hts]
      by_cases hroom : len + n ≤ cp
      · exact inpl _ an i len cp b base cap rows hent hρ hil hcap hx hroom h fun ρ' hρ' => ⟨_, cp, rfl, hroom, .inr ⟨b, base + i * (cks P e).length, cap - i, hρ', by simp, by omega⟩⟩
      · exact fresh _ len cp _ _ hx (by simp) H1 hol hof (first_some hofl hocells) (by omega) hb h

omit hD in
/-- A block is taken out of a part of one's own. -/
theorem Holds.subOut (H : Holds ρ hp M F w) {m : Nat} {N : HL} (hm : hp[m]? = some (.sub true N)) {e : TypeId} {ck : List CK} {rows : List (List Value)} {b base cap : Nat} {cur : Array Value} (h0 : 0 < ck.length) (hN : N b = some (.cells cur e (0, 0)))
    (hsz : cur.size = base + cap * ck.length) (hcm : cap ≤ maxLen) (hrl : rows.length ≤ cap) (hrow : RowAt ck cur base rows) :
    Holds (grow ρ hp.length (some (b, base, cap))) (hp.set m (.sub true (hput N b none)) ++ [.row true e ck rows]) M F w := by
  have hml : m < hp.length := (List.getElem?_eq_some_iff.1 hm).1
  have hb := (H.ent m _ hm b _ hN).2
  simp only [if_true] at hb
  have hmb : owns ρ hp m b := ⟨_, 0, 0, hm, rfl, _, hN⟩
  have hcase : ∀ k c, owns (grow ρ hp.length (some (b, base, cap))) (hp.set m (.sub true (hput N b none)) ++ [.row true e ck rows]) k c → (k = hp.length ∧ c = b) ∨ (c ≠ b ∧ owns ρ hp k c) := by
    rintro k c ⟨e1, ba, ca, h1, h2, h3⟩
    by_cases hk : k = hp.length
    · subst hk
      rw [grow_self] at h3
      rw [List.getElem?_append_right (by simp)] at h1
      simp at h1
      subst h1
      cases h3
      exact .inl ⟨rfl, rfl⟩
    · have hk' : k < hp.length := by
        have := (List.getElem?_eq_some_iff.1 h1).1
        simp at this; omega
      rw [grow_ne _ _ hk] at h3
      rw [List.getElem?_append_left (by simpa using hk')] at h1
      by_cases hkm : m = k
      · subst hkm
        rw [List.getElem?_set_self hk'] at h1
        cases h1
        obtain ⟨x, hx⟩ := h3
        have hc : c ≠ b := fun h => by subst h; rw [hput_self] at hx; cases hx
        rw [hput_ne _ _ hc] at hx
        exact .inr ⟨hc, _, 0, 0, hm, rfl, x, hx⟩
      · rw [List.getElem?_set_ne hkm] at h1
        have hkc : owns ρ hp k c := ⟨e1, ba, ca, h1, h2, h3⟩
        exact .inr ⟨fun h => by subst h; exact hkm (H.sep _ _ _ hmb hkc), hkc⟩
  refine ⟨fun k e1 h1 => ?_, fun j k c h1 h2 => ?_, fun k c h1 => ?_, H.frm, H.sub, fun k hk => ?_⟩
  · by_cases hk : k = hp.length
    · subst hk
      rw [List.getElem?_append_right (by simp)] at h1
      simp at h1
      subst h1
      simp only [EntOK, grow_self, if_true]
      exact ⟨h0, cur, (0, 0), ⟨hb, hsz, hcm⟩, hrl, hrow⟩
    · have hk' : k < hp.length := by
        have := (List.getElem?_eq_some_iff.1 h1).1
        simp at this; omega
      rw [List.getElem?_append_left (by simpa using hk')] at h1
      by_cases hkm : m = k
      · subst hkm
        rw [List.getElem?_set_self hk'] at h1
        cases h1
        intro c x hx
        have hc : c ≠ b := fun h => by subst h; rw [hput_self] at hx; cases hx
        rw [hput_ne _ _ hc] at hx
        exact H.ent _ _ hm c x hx
      · rw [List.getElem?_set_ne hkm] at h1
        exact (H.ent k e1 h1).keep (H.le (grow_ext _ _ _)) (grow_ne _ _ hk) (FLe.refl M) fun _ _ _ _ _ => rfl
  · rcases hcase j c h1 with ⟨hj, hc⟩ | ⟨hc, h1'⟩ <;> rcases hcase k c h2 with ⟨hk, hc'⟩ | ⟨hc', h2'⟩
    · exact hj.trans hk.symm
    · exact absurd hc hc'
    · exact absurd hc' hc
    · exact H.sep _ _ _ h1' h2'
  · rcases hcase k c h1 with ⟨hk, hc⟩ | ⟨hc, h1'⟩
    · subst hc; exact H.out _ _ hmb
    · exact H.out _ _ h1'
  · rw [grow_ne _ _ (by simp at hk; omega)]
    exact H.dom k (by simp at hk; omega)

omit hD in
include H in
theorem append_core {o : Oper} {c : Call} {t u e : TypeId} {x y : Operand} {z : Value} (ho : o.op = .call c) (hc1 : c.callee = .builtin .append) (hc2 : c.args = #[x, y]) (hc3 : c.argTypes = #[t, u]) (ht : P.underlying t = some (.slice e))
    (hu : ∃ e', P.underlying u = some (.slice e')) (hz : zeroOf P e = some z) (hzs : z.cells.size = szOf P e) (hsz0 : szOf P e = (cks P e).length) (hby0 : 0 < byOf P e) (hw : 0 < (cks P e).length)
    {n : Nat} {news : List (List Value)} {xa : Option Addr} {xc : Nat} (hy : a.eval y = .slice xa n xc) (hnl : news.length = n) (hnf : RowsFit (cks P e) news)
    (hnc : n = 0 ∨ ∃ b, xa = some b ∧ ∀ (j : Nat) (v : Value), news.flatten[j]? = some v → w.cell? (b.add j) = some v) {sx : SV} (hxd : Den ρ sx (a.eval x))
    (h : vApp1 e (cks P e) (byOf P e) n news sx hp M fun v hp' => K v hp' M) : OpWp P o a w (Post K hp.length ρ M F w) := by
  unfold vApp1 at h
  split at h
  · exact append_core0 H ho hc1 hc2 hc3 ht hu hz hzs hsz0 hby0 hw hy hnl hnf hnc hxd h
  split at h
  case h_2 => exact append_core0 H ho hc1 hc2 hc3 ht hu hz hzs hsz0 hby0 hw hy hnl hnf hnc hxd h
  rename_i yv
  rcases h with h | h
  · exact append_core0 H ho hc1 hc2 hc3 ht hu hz hzs hsz0 hby0 hw hy hnl hnf hnc hxd h
  obtain ⟨m, N, rows, hm, hO, hb, h⟩ := h
  have hml : m < hp.length := (List.getElem?_eq_some_iff.1 hm).1
  simp only [Den] at hxd
  obtain ⟨hx, _⟩ := hxd
  have go : ∀ (N' : HL) (ρ1 : Nat → Loc), (∀ b, blkOf yv ≠ some b → N' b = N b) → (∀ b, blkOf yv = some b → N' b = none) → Holds ρ1 (hp.set m (.sub true N') ++ [.row true e (cks P e) rows]) M F w → Ext hp.length ρ ρ1 →
      Den ρ1 (.slc hp.length (cks P e).length 0 rows.length) (a.eval x) → OpWp P o a w (Post K hp.length ρ M F w) := by
    intro N' ρ1 hN1 hN2 H1 hx1 hd1
    have hK := h N' hN1 hN2
    rw [eset_iff, epush_iff, epush_iff, lenK_eq, lenK_eq, llen_eq, llen_eq] at hK
    have hlen1 : (hp.set m (.sub true N') ++ [Ent.row true e (cks P e) rows]).length = hp.length + 1 := by simp
    have hget : eget (hp.set m (.sub true N') ++ [Ent.row true e (cks P e) rows]) hp.length = .row true e (cks P e) rows := by
      have key : ∀ (l : List Ent) (x : Ent), eget (l ++ [x]) l.length = x := by
        intro l x
        induction l with
        | nil => rfl
        | cons a r ih => simpa [eget] using ih
      have := key (hp.set m (.sub true N')) (.row true e (cks P e) rows)
      rwa [List.length_set] at this
    have hset : (hp.set m (.sub true N') ++ [Ent.row true e (cks P e) rows]).set hp.length .gone = hp.set m (.sub true N') ++ [.gone] := by
      rw [List.set_append_right _ _ (by simp)]
      simp
    have h1 := append_core0 H1 (K := K) ho hc1 hc2 hc3 ht hu hz hzs hsz0 hby0 hw hy hnl hnf hnc hd1 (by
      unfold vApp0
      simp only [isNilS, hget]
      rw [show Nat.beq e e = true from Nat.beq_refl e, show Nat.beq (cks P e).length (llen (cks P e)) = true by rw [llen_eq]; exact Nat.beq_refl _]
      simp only [decide_true]
      refine ⟨hb, by omega, ?_⟩
      rw [eset_iff, epush_iff, lenK_eq, lenK_eq, llen_eq, llen_eq, hset]
      simpa using hK)
    intro K2 Q hk
    refine h1 K2 Q fun v w' hp => hk v w' ?_
    obtain ⟨sv, ρ', hp', M', F', q1, q2, q3, q4⟩ := hp
    rw [hlen1] at q2 q3
    exact ⟨sv, ρ', hp', M', F', q1, by omega, hx1.trans (q3.mono (by omega)), q4⟩
  obtain ⟨h0, ⟨rfl, ad, rfl⟩ | ⟨b, base, cp, cap, cur, rfl, hlc, hc0, hcc, hN, hsz, hcm, hrow⟩⟩ := hO
  · refine go N ρ (fun _ _ => rfl) (fun b hb => by cases ad <;> cases hb) ?_ (Ext.refl _ _) ?_
    · have hset : hp.set m (.sub true N) = hp := by
        apply List.ext_getElem?
        intro j
        by_cases hj : m = j
        · subst hj; rw [List.getElem?_set_self hml, hm]
        · rw [List.getElem?_set_ne hj]
      rw [hset]
      exact H.nilRow true e (cks P e) hw
    · simp only [Den]
      exact ⟨ad, 0, hx, Nat.le_refl _, .inl rfl⟩
  · obtain ⟨c2, rfl⟩ : ∃ c2, cp = c2 + 1 := ⟨cp - 1, by omega⟩
    refine go (hput N b none) (grow ρ hp.length (some (b, base, cap))) (fun k hk => hput_ne _ _ fun hkb => hk (by rw [hkb]; rfl)) (fun k hk => by cases hk; exact hput_self _ _ _) (H.subOut hm h0 hN hsz hcm (by omega) hrow) (grow_ext _ _ _) ?_
    simp only [Den]
    exact ⟨_, _, hx, hlc, .inr ⟨b, base, cap, grow_self _ _ _, by simp, by omega⟩⟩

include H hD
theorem s_append {o : Oper} {c : Call} {t u e : TypeId} {x y : Operand} {z : Value} (ho : o.op = .call c) (hc1 : c.callee = .builtin .append) (hc2 : c.args = #[x, y]) (hc3 : c.argTypes = #[t, u]) (ht : P.underlying t = some (.slice e))
    (hu : ∃ e', P.underlying u = some (.slice e')) (hz : zeroOf P e = some z) (hzs : z.cells.size = szOf P e) (hsz0 : szOf P e = (cks P e).length) (hby0 : 0 < byOf P e)
    (h : vcOp Γ (.append e (cks P e) z.cells.toList (byOf P e) (carg x) (carg y)) tm hp M K) : OpWp P o a w (Post K hp.length ρ M F w) := by
  simp only [vcOp, vAppend] at h
  split at h
  · exact h.elim
  rename_i c0 cr hck
  have hw : 0 < (cks P e).length := by rw [hck]; simp
  have h' := vRows_spec H hw (ev_den hD y) h
  clear h
  obtain ⟨n, news, xa, xc, h, hy, hnl, hnf, hnc⟩ := h'
  exact append_core H ho hc1 hc2 hc3 ht hu hz hzs hsz0 hby0 hw hy hnl hnf hnc (ev_den hD x) h
end
section
variable {P : Program} {Γ : Nat → Option Trans} {tm : List SV} {hp : List Ent} {M F : HL} {K : SV → List Ent → HL → Prop} {ρ : Nat → Loc} {w : World} {a : Act}
variable (H : Holds ρ hp M F w) (hD : DenL ρ tm a.tmps.toList)
include H hD
theorem s_appendz {o : Oper} {c : Call} {t u e : TypeId} {x y : Operand} {z : Value} (ho : o.op = .call c) (hc1 : c.callee = .builtin .append) (hc2 : c.args = #[x, y]) (hc3 : c.argTypes = #[t, u]) (ht : P.underlying t = some (.slice e))
    (hu : ∃ k, P.underlying u = some (.int k)) (hz : zeroOf P e = some z) (hfz : fitsAll (cks P e) z.cells.toList = true) (hsz0 : szOf P e = (cks P e).length) (hby0 : 0 < byOf P e)
    (h : vcOp Γ (.appendz e (cks P e) z.cells.toList (byOf P e) (carg x) (carg y)) tm hp M K) : OpWp P o a w (Post K hp.length ρ M F w) := by
  unfold zeroOf at hz
  obtain ⟨ti, hti, hz'⟩ := Option.bind_eq_some_iff.1 hz
  have hsz : szOf P e = ti.size := by simp [szOf, hti]
  have hby : byOf P e = ti.bytes := by simp [byOf, hti]
  have run : ∀ {v : Value} {w' : World}, (Builtin.append_ #[t, u] o.type #[a.eval x, a.eval y]).run P w = .ok v w' → (execOp a.eval o).run P w = .ok (.value v) w' := by
    intro v w' hr
    simp only [execOp, ho, resolve, hc1, hc2, hc3, invoke, builtin, Sem.run_bind, Sem.run_pure, Result.andThen_ok, List.map_toArray, List.map_cons, List.map_nil, hr]
  simp only [vcOp, vAppz] at h
  split at h
  · exact h.elim
  rename_i c0 cr hck
  have hw : 0 < (cks P e).length := by rw [hck]; simp
  split at h
  case h_2 => exact h.elim
  rename_i hnil
  obtain ⟨ad, hx⟩ := isNilS_den hnil (ev_den hD x)
  obtain ⟨k, m, hy, h⟩ := int_den h (ev_den hD y)
  obtain ⟨hm0, hb, h⟩ := h
  obtain ⟨n, rfl⟩ : ∃ n : Nat, m = n := ⟨m.toNat, by omega⟩
  rw [epush_iff, lenK_eq, lenK_eq, llen_eq, llen_eq, Int.toNat_natCast] at h
  have hn0 : 0 < n := by omega
  have hbn : n * ti.bytes ≤ 140737488355328 := by rw [← hby]; rw [← Int.natCast_mul] at hb; omega
  have hn1 : n ≤ 140737488355328 := Nat.le_trans (Nat.le_mul_of_pos_right _ (by omega)) hbn
  obtain ⟨hzl, hzf⟩ := fitsAll_spec hfz
  have hzs : z.cells.size = ti.size := by rw [← hsz, hsz0, ← hzl, Array.length_toList]
  have hrep : RowsFit (cks P e) (List.replicate n z.cells.toList) := fun j r hr => by
    rw [List.getElem?_replicate] at hr
    split at hr
    · cases hr; exact ⟨hzl, hzf⟩
    · cases hr
  have hr := app_growz w t u o.type e ti z ht hu hti hz' ad k n hn0 (by omega) (by omega) (by have : (n * ti.bytes : Nat) ≤ 281474976710656 := Nat.le_trans hbn (by decide); rw [← Int.natCast_mul]; omega) (growslice_fits hn0 hbn)
  rw [← hx, ← hy] at hr
  have hge := grownCap_ge w n 0 e
  have hcm := grownCap_le_maxLen w n 0 e (by unfold maxLen; omega)
  have hzc := zeroCells_list z.cells (by omega) n
  have hfl : (List.replicate n z.cells.toList).flatten.length = n * ti.size := by rw [flatten_len _ hrep.mem, List.length_replicate, ← hsz0, hsz]
  have hcsz : (Builtin.zeroCells z.cells n ++ Builtin.zeroCells z.cells (grownCap w n 0 e - n)).size = grownCap w n 0 e * (cks P e).length := by
    rw [Array.size_append, size_zeroCells, size_zeroCells, hzs, ← Nat.add_mul, ← hsz0, hsz]
    congr 1
    omega
  have H2 := H.newRow (w' := w.drew.alloc (.cells (Builtin.zeroCells z.cells n ++ Builtin.zeroCells z.cells (grownCap w n 0 e - n)) e)) (rows := List.replicate n z.cells.toList) rfl hw hcm hcsz (by rw [List.length_replicate]; exact hge)
    (rowAt_flatten hrep (fun j v hj => by
      rw [Nat.zero_add]
      have hjl := (List.getElem?_eq_some_iff.1 hj).1
      rw [← Array.getElem?_toList, Array.toList_append, hzc, List.getElem?_append_left hjl]
      exact hj))
  refine .of_value (run hr) ⟨_, grow ρ hp.length (some (w.heap.size, 0, grownCap w n 0 e)), _, M, F, h, by simp, grow_ext _ _ _, H2, Gr.refl M F, ⟨rfl, rfl, rfl, by simp⟩, ?_⟩
  exact ⟨_, _, rfl, hge, .inr ⟨w.heap.size, 0, _, grow_self _ _ _, by simp, by omega⟩⟩
theorem s_clr {o : Oper} {c : Call} {t e : TypeId} {x : Operand} {z : Value} (ho : o.op = .call c) (hc1 : c.callee = .builtin .clear) (hc2 : c.args = #[x]) (hc3 : c.argTypes = #[t]) (ht : P.underlying t = some (.slice e))
    (hz : zeroOf P e = some z) (hfz : fitsAll (cks P e) z.cells.toList = true) (hsz0 : szOf P e = (cks P e).length)
    (h : vcOp Γ (.clr e (cks P e) z.cells.toList (carg x)) tm hp M K) : OpWp P o a w (Post K hp.length ρ M F w) := by
  unfold zeroOf at hz
  obtain ⟨ti, hti, hz'⟩ := Option.bind_eq_some_iff.1 hz
  have hsz : szOf P e = ti.size := by simp [szOf, hti]
  have hx := ev_den hD x
  have run : ∀ {v : Value} {w' : World}, (Builtin.clear_ #[t] o.type #[a.eval x]).run P w = .ok v w' → (execOp a.eval o).run P w = .ok (.value v) w' := by
    intro v w' hr
    simp only [execOp, ho, resolve, hc1, hc2, hc3, invoke, builtin, Sem.run_bind, Sem.run_pure, Result.andThen_ok, List.map_toArray, List.map_cons, List.map_nil, hr]
  have empty : ∀ ad cp, a.eval x = .slice ad 0 cp → (Builtin.clear_ #[t] o.type #[a.eval x]).run P w = .ok (.tuple #[]) w := by
    intro ad cp he
    rw [he]
    cases ad <;> simp [Builtin.clear_, run_underlying ht]
  simp only [vcOp, vClr] at h
  split at h
  · rename_i hn
    obtain ⟨ad, hv⟩ := isNilS_den hn hx
    exact .of_value (run (empty _ _ hv)) (.same H h ⟨[], rfl, trivial⟩)
  · split at h
    case h_2 => exact h.elim
    rename_i n wd i len he
    rw [he] at hx
    simp only [Den] at hx
    obtain ⟨ad, cp, hv, hlc, hor⟩ := hx
    split at h
    case h_2 => exact h.elim
    rename_i e' ck' rows hent
    have hent := eget_ne hent (by simp)
    split at h
    case h_2 => exact h.elim
    rename_i hee hck hwd
    have hee := Nat.eq_of_beq_eq_true hee
    subst hee
    have hck : ck' = cks P e := by simpa using hck
    subst hck
    rw [llen_eq] at hwd
    have hwd := Nat.eq_of_beq_eq_true hwd
    subst hwd
    obtain ⟨hil, h⟩ := h
    rw [eset_iff] at h
    obtain ⟨hzl, hzf⟩ := fitsAll_spec hfz
    obtain ⟨hw, hrf⟩ := row_fit H hent
    have hrep : RowsFit (cks P e) (List.replicate len z.cells.toList) := fun j r hr => by
      rw [List.getElem?_replicate] at hr
      split at hr
      · cases hr; exact ⟨hzl, hzf⟩
      · cases hr
    by_cases hl0 : len = 0
    · subst hl0
      have e1 : rows.take i ++ List.replicate 0 z.cells.toList ++ rows.drop (i + 0) = rows := by simp
      rw [e1] at h
      have e2 : hp.set n (.row true e (cks P e) rows) = hp := by
        apply List.ext_getElem?
        intro j
        by_cases hj : n = j
        · subst hj; rw [List.getElem?_set_self (List.getElem?_eq_some_iff.1 hent).1, hent]
        · rw [List.getElem?_set_ne hj]
      rw [e2] at h
      exact .of_value (run (empty _ _ hv)) (.same H h ⟨[], rfl, trivial⟩)
    · rcases hor with h0 | ⟨b, base, cap, hρ, rfl, hcap⟩
      · omega
      have hE := H.ent n _ hent
      simp only [EntOK, hρ, if_true] at hE
      obtain ⟨_, cur, fr, ⟨hb1, hcsz, hcm⟩, hrl, hrow⟩ := hE
      have hzs : z.cells.size = (cks P e).length := by simpa using hzl
      have hzc := zeroCells_list z.cells (by omega) len
      have hfl : (List.replicate len z.cells.toList).flatten.length = len * (cks P e).length := by rw [flatten_len _ hrep.mem]; simp
      have hmul : ∀ q, q ≤ cap → q * (cks P e).length ≤ cap * (cks P e).length := fun q hq => Nat.mul_le_mul_right _ hq
      have hfit : base + i * (cks P e).length + (List.replicate len z.cells.toList).flatten.length ≤ cur.size := by
        rw [hfl, hcsz]
        have := hmul (i + len) (by omega)
        rw [Nat.add_mul] at this
        omega
      have hst := run_storeCells_at P b (base + i * (cks P e).length) e (List.replicate len z.cells.toList).flatten 0 cur w hb1 (by rw [Nat.add_zero]; exact hfit) (hrep.one hw)
      simp only [Nat.add_zero] at hst
      have hr : (Builtin.clear_ #[t] o.type #[a.eval x]).run P w = .ok (.tuple #[]) (w.setRow b (cur.toList.take (base + i * (cks P e).length) ++ (List.replicate len z.cells.toList).flatten ++ cur.toList.drop (base + i * (cks P e).length + (List.replicate len z.cells.toList).flatten.length)).toArray) := by
        rw [hv]
        obtain ⟨m, rfl⟩ : ∃ m, len = m + 1 := ⟨len - 1, by omega⟩
        simp [Builtin.clear_, run_underlying ht, zeroValue, typeInfo, hti, hz', hzc, hst]
      refine .of_value (run hr) ⟨_, ρ, _, M, F, h, by simp, Ext.refl _ _, ?_, Gr.refl M F, Same.setRow _ _ _, ⟨[], rfl, trivial⟩⟩
      refine H.setRow hent rfl hρ ?_
      simp only [EntOK, hρ, if_true]
      have hcs' : (cur.toList.take (base + i * (cks P e).length) ++ (List.replicate len z.cells.toList).flatten ++ cur.toList.drop (base + i * (cks P e).length + (List.replicate len z.cells.toList).flatten.length)).toArray.size = cur.size := by
        simp only [List.size_toArray, List.length_append, List.length_take, List.length_drop, Array.length_toList]; omega
      refine ⟨hw, _, (0, 0), ⟨setRow_heap w b cur _ e _ hb1, by rw [hcs', hcsz], hcm⟩, by simp; omega, ?_⟩
      intro q r hr'
      have hq : (rows.take i ++ List.replicate len z.cells.toList ++ rows.drop (i + len))[q]? = if i ≤ q ∧ q < i + len then some z.cells.toList else rows[q]? := by
        have := take_over' (cs := rows) (f := i) (l := List.replicate len z.cells.toList) (by simpa using hil) q
        rw [List.length_replicate] at this
        rw [this]
        split
        · rw [List.getElem?_replicate, if_pos (by omega)]
        · rfl
      rw [hq] at hr'
      split at hr'
      · rename_i hin
        cases hr'
        refine ⟨hzl, fun f k x hk hx => ⟨?_, hzf f k x hk hx⟩⟩
        have hf : f < (cks P e).length := (List.getElem?_eq_some_iff.1 hk).1
        simp only [List.getElem?_toArray]
        have h1 : i * (cks P e).length ≤ q * (cks P e).length := Nat.mul_le_mul_right _ hin.1
        have h2 : (q + 1) * (cks P e).length ≤ (i + len) * (cks P e).length := Nat.mul_le_mul_right _ (by omega)
        rw [Nat.succ_mul, Nat.add_mul] at h2
        rw [take_over (by simpa using hfit), if_pos ⟨by omega, by omega⟩]
        have := flatten_replicate_get (z := z.cells.toList) (by omega) len (q - i) f (by omega) (by omega)
        rw [hzl, Nat.sub_mul] at this
        rw [show base + (q * (cks P e).length + f) - (base + i * (cks P e).length) = q * (cks P e).length - i * (cks P e).length + f by omega, this]
        exact hx
      · rename_i hout
        obtain ⟨h4, h5⟩ := hrow q r hr'
        refine ⟨h4, fun f k x hk hx => ?_⟩
        have hf : f < (cks P e).length := (List.getElem?_eq_some_iff.1 hk).1
        obtain ⟨h6, h7⟩ := h5 f k x hk hx
        refine ⟨?_, h7⟩
        simp only [List.getElem?_toArray]
        rw [take_over (by simpa using hfit), if_neg]
        · simpa using h6
        · intro ⟨ha, hb⟩
          rw [hfl] at hb
          rcases Nat.lt_or_ge q i with hlt | hge
          · have h2 : (q + 1) * (cks P e).length ≤ i * (cks P e).length := Nat.mul_le_mul_right _ (by omega)
            rw [Nat.succ_mul] at h2
            omega
          · have h2 : (i + len) * (cks P e).length ≤ q * (cks P e).length := Nat.mul_le_mul_right _ (by omega)
            rw [Nat.add_mul] at h2
            omega
end
end Go.Vc
/-
  Symbolic execution, part J: every operation that 'vcOp' knows is sound.
-/
namespace Go.Vc
theorem eqIn {P : Program} {w : World} {t : TypeId} {X Y : Value} {b : Bool} (h : ∀ d, (Op.equalIn (d + 1) t X Y).run P w = .ok b w) : (Op.equal t X Y).run P w = .ok b w := h 9999
theorem guard_ok {P : Program} {w : World} {t : TypeId} {x y : Operand} {X Y : Value} (h1 : X ≠ .nilIface ∨ Y ≠ .nilIface) (h2 : ∀ cs, X ≠ .agg cs) (op : BinOp) : (eqGuard op t x y X Y).run P w = .ok () w := by
  unfold eqGuard
  generalize (!(match op with | .eql | .neq => true | _ => false)) = b
  cases b with
  | true => rfl
  | false =>
    simp only [Bool.false_eq_true, if_false]
    split
    · simp at h1
    · exact absurd rfl (h2 _)
    · rfl
theorem guard_nil {P : Program} {w : World} {t : TypeId} {x y : Operand} (h : (isConstO x || isConstO y) = true) (op : BinOp) : (eqGuard op t x y .nilIface .nilIface).run P w = .ok () w := by
  unfold eqGuard
  generalize (!(match op with | .eql | .neq => true | _ => false)) = b
  cases b with
  | true => rfl
  | false =>
    simp only [Bool.false_eq_true, if_false]
    cases x <;> cases y <;> first | rfl | (simp [isConstO] at h)
section
variable {P : Program} {Γ : Nat → Option Trans} {tm : List SV} {hp : List Ent} {M F : HL} {K : SV → List Ent → HL → Prop} {ρ : Nat → Loc} {w : World} {a : Act}
variable (H : Holds ρ hp M F w) (hD : DenL ρ tm a.tmps.toList)
include H hD

theorem s_tassert {o : Oper} {x : Operand} {t u : TypeId} {ok : Bool} {z : Value} (ho : o.op = .typeAssert x t u ok) (hz : zeroOf P u = some z) (hc : P.concrete u = true) (h : vcOp Γ (.tassert u ok (.ofV z) (carg x)) tm hp M K) : POk P o a ρ fun v => K v hp M := by
  have _ := @H
  unfold zeroOf at hz
  obtain ⟨ti, hti, hz'⟩ := Option.bind_eq_some_iff.1 hz
  obtain ⟨d, hd, hnd⟩ : ∃ d, P.underlying u = some d ∧ ∀ ms, d ≠ .interface ms := by
    unfold Program.concrete at hc
    cases hd : P.underlying u with
    | none => simp [hd] at hc
    | some d => exact ⟨d, rfl, fun ms hm => by subst hm; simp [hd] at hc⟩
  have hrun : ∀ (w : World) (y : Value), (∃ t' v, y = .iface t' v) ∨ y = .nilIface → a.eval x = y → (execOp a.eval o).run P w =
      (match y with
      | .iface t' v => if t' = u then .ok (.value (if ok then .tuple #[v, .bool true] else v)) w else ((execOp a.eval o).run P w)
      | _ => ((execOp a.eval o).run P w)) := by
    intro w y hy he
    rcases hy with ⟨t', v, rfl⟩ | rfl
    · dsimp only
      split
      · rename_i htu
        subst htu
        cases d <;> (try exact absurd rfl (hnd _)) <;> (cases ok <;> simp [execOp, ho, he, Instr.typeAssert, run_underlying hd])
      · rfl
    · rfl
  have hfail : ∀ (w : World) (y : Value), (∃ t' v, y = .iface t' v ∧ t' ≠ u) ∨ y = .nilIface → a.eval x = y → ok = true → (execOp a.eval o).run P w = .ok (.value (.tuple #[z, .bool false])) w := by
    intro w y hy he hok
    subst hok
    rcases hy with ⟨t', v, rfl, htu⟩ | rfl
    · cases d <;> (try exact absurd rfl (hnd _)) <;> simp [execOp, ho, he, Instr.typeAssert, run_underlying hd, htu, zeroValue, typeInfo, hti, hz']
    · cases d <;> (try exact absurd rfl (hnd _)) <;> simp [execOp, ho, he, Instr.typeAssert, run_underlying hd, zeroValue, typeInfo, hti, hz']
  simp only [vcOp, vTassert] at h
  have hx := ev_den hD x
  have zden : Den ρ (.tup [.ofV z, .v (.bool false)]) (.tuple #[z, .bool false]) := ⟨[z, .bool false], rfl, by simp only [DenL, Den, and_true]; exact den_ofV ρ z⟩
  split at h
  · rename_i t' y he
    rw [he] at hx
    simp only [Den] at hx
    obtain ⟨v, hv, hdv⟩ := hx
    split at h
    · rename_i htu
      have htu := Nat.eq_of_beq_eq_true htu
      refine .mk' (v := .tuple #[v, .bool true]) (fun w => ?_) h ⟨[v, .bool true], rfl, by simp only [DenL, Den, and_true]; exact hdv⟩
      rw [hrun w _ (.inl ⟨_, _, rfl⟩) hv]; simp [htu]
    · rename_i htu
      have htu := Nat.eq_of_beq_eq_true htu
      refine .mk' (v := v) (fun w => ?_) h hdv
      rw [hrun w _ (.inl ⟨_, _, rfl⟩) hv]; simp [htu]
    · rename_i htu
      exact .mk' (fun w => hfail w _ (.inl ⟨t', v, rfl, Nat.ne_of_beq_eq_false htu⟩) hv rfl) h zden
    · exact h.elim
  · rename_i t' y he
    rw [he] at hx
    simp only [Den] at hx
    split at h
    · rename_i htu
      have htu := Nat.eq_of_beq_eq_true htu
      refine .mk' (v := .tuple #[y, .bool true]) (fun w => ?_) h ⟨[y, .bool true], rfl, by simp [DenL, Den]⟩
      rw [hrun w _ (.inl ⟨_, _, rfl⟩) hx.symm]; simp [htu]
    · rename_i htu
      have htu := Nat.eq_of_beq_eq_true htu
      refine .mk' (v := y) (fun w => ?_) h rfl
      rw [hrun w _ (.inl ⟨_, _, rfl⟩) hx.symm]; simp [htu]
    · rename_i htu
      exact .mk' (fun w => hfail w _ (.inl ⟨t', y, rfl, Nat.ne_of_beq_eq_false htu⟩) hx.symm rfl) h zden
    · exact h.elim
  · rename_i he
    rw [he] at hx
    simp only [Den] at hx
    split at h
    · exact .mk' (fun w => hfail w _ (.inr rfl) hx.symm rfl) h zden
    · exact h.elim
  · exact h.elim

theorem s_eqp {o : Oper} {op : BinOp} {t u : TypeId} {x y : Operand} {k : Nat} (ho : o.op = .binOp op t x y u) (hop : op = .eql ∨ op = .neq) (h : vcOp Γ (.eqp k (isConstO x || isConstO y) (isNeq op) (carg x) (carg y)) tm hp M K)
    (hk : (k = 0 ∧ ∃ e, P.underlying t = some (.pointer e)) ∨ (k = 1 ∧ ∃ ms, P.underlying t = some (.interface ms)) ∨ (k = 2 ∧ ∃ p q v, P.underlying t = some (.func p q v)) ∨ (k = 3 ∧ ∃ e, P.underlying t = some (.slice e))) : POk P o a ρ fun v => K v hp M := by
  have _ := @H
  simp only [vcOp] at h
  have hx := ev_den hD x
  have hy := ev_den hD y
  have key : ∀ (X Y : Value) (b : Bool), a.eval x = X → a.eval y = Y → (∀ w op, (eqGuard op t x y X Y).run P w = .ok () w) → (∀ w, (Op.equal t X Y).run P w = .ok b w) → (Go.binOp .eql t X Y = do pure (.bool (← Op.equal t X Y))) → (Go.binOp .neq t X Y = do pure (.bool (!(← Op.equal t X Y)))) →
      K (.v (.bool (match (isNeq op) with | true => !b | false => b))) hp M → POk P o a ρ fun v => K v hp M := by
    intro X Y b hX hY hg he h1 h2 hK
    rcases hop with rfl | rfl
    · exact .mk' (v := .bool b) (fun w => by simp [execOp, ho, hX, hY, hg, h1, he]) hK rfl
    · exact .mk' (v := .bool !b) (fun w => by simp [execOp, ho, hX, hY, hg, h2, he]) hK rfl
  rcases hk with ⟨rfl, e, hu⟩ | ⟨rfl, ms, hu⟩ | ⟨rfl, p, q, vr, hu⟩ | ⟨rfl, e, hu⟩
  · simp only [vEq, vEq0] at h
    split at h
    · rename_i he1 he2
      rw [he1] at hx; rw [he2] at hy
      simp only [Den] at hx hy
      obtain ⟨_, _, _, _, hx⟩ := hx
      exact key _ _ false hx hy.symm (fun w => guard_ok (by simp) (by simp)) (fun w => eqIn fun d => by simp [Op.equalIn, run_underlying hu]) rfl rfl h
    · rename_i he1 he2
      rw [he1] at hx; rw [he2] at hy
      simp only [Den] at hx hy
      obtain ⟨_, _, _, _, hy⟩ := hy
      exact key _ _ false hx.symm hy (fun w => guard_ok (by simp) (by simp)) (fun w => eqIn fun d => by simp [Op.equalIn, run_underlying hu]) rfl rfl h
    · rename_i he1 he2
      rw [he1] at hx; rw [he2] at hy
      simp only [Den] at hx hy
      obtain ⟨_, _, _, _, hx⟩ := hx
      exact key _ _ false hx hy.symm (fun w => guard_ok (by simp) (by simp)) (fun w => eqIn fun d => by simp [Op.equalIn, run_underlying hu]) rfl rfl h
    · rename_i he1 he2
      rw [he1] at hx; rw [he2] at hy
      simp only [Den] at hx hy
      obtain ⟨_, _, _, _, hy⟩ := hy
      exact key _ _ false hx.symm hy (fun w => guard_ok (by simp) (by simp)) (fun w => eqIn fun d => by simp [Op.equalIn, run_underlying hu]) rfl rfl h
    · rename_i he1 he2
      rw [he1] at hx; rw [he2] at hy
      simp only [Den] at hx hy
      exact key _ _ false hx.symm hy.symm (fun w => guard_ok (by simp) (by simp)) (fun w => eqIn fun d => by simp [Op.equalIn, run_underlying hu]) rfl rfl h
    · rename_i he1 he2
      rw [he1] at hx; rw [he2] at hy
      simp only [Den] at hx hy
      exact key _ _ false hx.symm hy.symm (fun w => guard_ok (by simp) (by simp)) (fun w => eqIn fun d => by simp [Op.equalIn, run_underlying hu]) rfl rfl h
    · rename_i he1 he2
      rw [he1] at hx; rw [he2] at hy
      simp only [Den] at hx hy
      exact key _ _ true hx.symm hy.symm (fun w => guard_ok (by simp) (by simp)) (fun w => eqIn fun d => by simp [Op.equalIn, run_underlying hu]) rfl rfl h
    · exact h.elim
  · simp only [vEq, vEq1] at h
    split at h
    · rename_i he1 he2
      rw [he1] at hx; rw [he2] at hy
      simp only [Den] at hx hy
      split at h
      case h_2 => exact h.elim
      rename_i hcc
      exact key _ _ true hx.symm hy.symm (fun w => guard_nil ‹_›) (fun w => eqIn fun d => by simp [Op.equalIn, run_underlying hu]) rfl rfl h
    · rename_i he1 he2
      rw [he1] at hx; rw [he2] at hy
      simp only [Den] at hx hy
      obtain ⟨_, hy, _⟩ := hy
      exact key _ _ false hx.symm hy (fun w => guard_ok (by simp) (by simp)) (fun w => eqIn fun d => by simp [Op.equalIn, run_underlying hu]) rfl rfl h
    · rename_i he1 he2
      rw [he1] at hx; rw [he2] at hy
      simp only [Den] at hx hy
      obtain ⟨_, hx, _⟩ := hx
      exact key _ _ false hx hy.symm (fun w => guard_ok (by simp) (by simp)) (fun w => eqIn fun d => by simp [Op.equalIn, run_underlying hu]) rfl rfl h
    · rename_i he1 he2
      rw [he1] at hx; rw [he2] at hy
      simp only [Den] at hx hy
      exact key _ _ false hx.symm hy.symm (fun w => guard_ok (by simp) (by simp)) (fun w => eqIn fun d => by simp [Op.equalIn, run_underlying hu]) rfl rfl h
    · rename_i he1 he2
      rw [he1] at hx; rw [he2] at hy
      simp only [Den] at hx hy
      exact key _ _ false hx.symm hy.symm (fun w => guard_ok (by simp) (by simp)) (fun w => eqIn fun d => by simp [Op.equalIn, run_underlying hu]) rfl rfl h
    · exact h.elim
  · simp only [vEq, vEq2] at h
    split at h
    · rename_i he1 he2
      rw [he1] at hx; rw [he2] at hy
      simp only [Den] at hx hy
      exact key _ _ true hx.symm hy.symm (fun w => guard_ok (by simp) (by simp)) (fun w => eqIn fun d => by simp [Op.equalIn, run_underlying hu]) rfl rfl h
    · rename_i he1 he2
      rw [he1] at hx; rw [he2] at hy
      simp only [Den] at hx hy
      obtain ⟨_, _, hx, _⟩ := hx
      exact key _ _ false hx hy.symm (fun w => guard_ok (by simp) (by simp)) (fun w => eqIn fun d => by simp [Op.equalIn, run_underlying hu]) rfl rfl h
    · exact h.elim
  · simp only [vEq, vEq3] at h
    split at h
    case h_2 => exact h.elim
    rename_i he2
    rw [he2] at hy
    simp only [Den] at hy
    have kt : ∀ l c, a.eval x = .slice none l c → K (.v (.bool (match (isNeq op) with | true => !true | false => true))) hp M → POk P o a ρ fun v => K v hp M := fun l c hX hK =>
      key _ _ true hX hy.symm (fun w => guard_ok (by simp) (by simp)) (fun w => eqIn fun d => by simp [Op.equalIn, run_underlying hu]) rfl rfl hK
    have kf : ∀ b l c, a.eval x = .slice (some b) l c → K (.v (.bool (match (isNeq op) with | true => !false | false => false))) hp M → POk P o a ρ fun v => K v hp M := fun b l c hX hK =>
      key _ _ false hX hy.symm (fun w => guard_ok (by simp) (by simp)) (fun w => eqIn fun d => by simp [Op.equalIn, run_underlying hu]) rfl rfl hK
    split at h
    · rename_i he1
      rw [he1] at hx
      simp only [Den] at hx
      exact kt _ _ hx.symm h
    · rename_i he1
      rw [he1] at hx
      simp only [Den] at hx
      exact kf _ _ _ hx.symm h
    · rename_i len he1
      rw [he1] at hx
      simp only [Den] at hx
      obtain ⟨ad, c, hx, hc, hb⟩ := hx
      by_cases hl : 0 < len
      · rcases hb with hb | ⟨b, base, cap, _, hb, _⟩
        · omega
        · subst hb
          exact kf _ _ _ hx (h.1 hl)
      · have h := h.2 (by omega)
        cases ad with
        | none => exact kt _ _ hx h.1
        | some b => exact kf _ _ _ hx h.2
    · rename_i he1
      rw [he1] at hx
      simp only [Den] at hx
      obtain ⟨ad, hx⟩ := hx
      cases ad with
      | none => exact kt _ _ hx h.1
      | some b => exact kf _ _ _ hx h.2
    · rename_i y he1
      rw [he1] at hx
      simp only [Den] at hx
      obtain ⟨hx, ad, n, c, rfl, _, hnn⟩ := hx
      have e : slen (.slice ad n c) = n := rfl
      rw [e] at h
      by_cases hl : 0 < n
      · cases ad with
        | none => have := hnn rfl; omega
        | some b => exact kf _ _ _ hx (h.1 hl)
      · have h := h.2 (by omega)
        cases ad with
        | none => exact kt _ _ hx h.1
        | some b => exact kf _ _ _ hx h.2
    · exact h.elim
end
end Go.Vc
/-
  Symbolic execution, part JM: maps.
-/
namespace Go.Vc

theorem KT.same_int {k : IntKind} {p q : Int × Int} : (KT.one k).same p q = (p.1 == q.1) := rfl
theorem same_symm (kt : KT) (p q : Int × Int) : kt.same p q = kt.same q p := by
  cases kt <;> simp only [KT.same, Bool.beq_comm, BEq.comm]
theorem same_trans (kt : KT) {p q : Int × Int} (h : kt.same p q = true) (x : Int × Int) : kt.same p x = kt.same q x := by
  cases kt with
  | one k =>
    simp only [KT.same, beq_iff_eq] at h ⊢
    rw [h]
  | two =>
    simp only [KT.same, Bool.and_eq_true, beq_iff_eq] at h ⊢
    rw [h.1, h.2]

section
variable {P : Program}
/-- What is asked of a key's type. -/
def KtOK (P : Program) (t : TypeId) : KT → Prop
  | .one k => P.underlying t = some (.int k)
  | .two => ∃ f0 f1, P.underlying t = some (.struct #[f0, f1]) ∧ f0.name ≠ "_" ∧ f1.name ≠ "_" ∧ P.underlying f0.type = some (.int .i64) ∧ P.underlying f1.type = some (.int .i64) ∧ f0.offset = 0 ∧ f1.offset = 1 ∧ P.stoodInHeld t = false
theorem isI64T_spec {t : TypeId} (h : isI64T P t = true) : P.underlying t = some (.int .i64) := by
  unfold isI64T at h
  split at h
  · assumption
  · cases h
theorem ktOf_ok {t : TypeId} {kt : KT} (h : ktOf P t = some kt) : KtOK P t kt := by
  unfold ktOf at h
  split at h
  · rename_i k hk; cases h; exact hk
  · rename_i fs hfs
    split at h
    · rename_i f0 f1 hl
      split at h
      · rename_i hc
        cases h
        simp only [Bool.and_eq_true, bne_iff_ne, Bool.not_eq_true'] at hc
        obtain ⟨⟨⟨⟨⟨⟨h1, h2⟩, h3⟩, h4⟩, h5⟩, h6⟩, h7⟩ := hc
        have : fs = #[f0, f1] := by apply Array.ext'; exact hl
        subst this
        exact ⟨f0, f1, hfs, h1, h2, isI64T_spec h3, isI64T_spec h4, Nat.eq_of_beq_eq_true h5, Nat.eq_of_beq_eq_true h6, h7⟩
      · cases h
    · cases h
  · cases h

theorem part_i64 {w : World} {t : TypeId} (h : P.underlying t = some (.int .i64)) {cs : Array Value} {off : Nat} {v : Value} (hv : cs[off]? = some v) : (part t cs off).run P w = .ok v w := by
  have hag : (isAgg t).run P w = .ok false w := by simp [isAgg, run_underlying h]
  simp [part, hag, hv]

theorem run_checkKey_kt {w : World} {t : TypeId} {kt : KT} (h : KtOK P t kt) (em : Bool) (n : Nat) (p : Int × Int) : (Instr.checkKey em (n + 2) t (kt.val p)).run P w = .ok () w := by
  cases kt with
  | one k => simp only [KtOK] at h; simp [Instr.checkKey, KT.val, run_underlying h]
  | two =>
    obtain ⟨f0, f1, h1, h2, h3, h4, h5, h6, h7, h8⟩ := h
    have p0 : (part f0.type #[.int .i64 p.1, .int .i64 p.2] f0.offset).run P w = .ok (.int .i64 p.1) w := part_i64 h4 (by rw [h6]; rfl)
    have p1 : (part f1.type #[.int .i64 p.1, .int .i64 p.2] f1.offset).run P w = .ok (.int .i64 p.2) w := part_i64 h5 (by rw [h7]; rfl)
    have c0 : (Instr.checkKey em (n + 1) f0.type (.int .i64 p.1)).run P w = .ok () w := by simp [Instr.checkKey, run_underlying h4]
    have c1 : (Instr.checkKey em (n + 1) f1.type (.int .i64 p.2)).run P w = .ok () w := by simp [Instr.checkKey, run_underlying h5]
    rw [Instr.checkKey]
    simp only [KT.val, Sem.run_bind, run_underlying h1, Result.andThen_ok]
    simp [h2, h3, p0, p1, c0, c1]

theorem run_equal_kt {w : World} {t : TypeId} (h : KtOK P t .two) (p q : Int × Int) : (Op.equal t (KT.two.val p) (KT.two.val q)).run P w = .ok (KT.two.same p q) w := by
  obtain ⟨f0, f1, h1, h2, h3, h4, h5, h6, h7, h8⟩ := h
  have hf : P.fieldsOf t = #[f0, f1] := by simp [Program.fieldsOf, h1]
  have e1 := run_equalIn_struct (P := P) w 9999 t #[.int .i64 p.1, .int .i64 p.2] #[.int .i64 q.1, .int .i64 q.2] (by rw [hf]; exact h1) h8
  rw [hf] at e1
  have p0 : ∀ p : Int × Int, (part f0.type #[.int .i64 p.1, .int .i64 p.2] f0.offset).run P w = .ok (.int .i64 p.1) w := fun p => part_i64 h4 (by rw [h6]; rfl)
  have p1 : ∀ p : Int × Int, (part f1.type #[.int .i64 p.1, .int .i64 p.2] f1.offset).run P w = .ok (.int .i64 p.2) w := fun p => part_i64 h5 (by rw [h7]; rfl)
  have q0 : ∀ a b, (Op.equalIn 9999 f0.type (.int .i64 a) (.int .i64 b)).run P w = .ok (a == b) w := fun a b => run_equalIn_int (P := P) w 9998 f0.type .i64 .i64 a b h4
  have q1 : ∀ a b, (Op.equalIn 9999 f1.type (.int .i64 a) (.int .i64 b)).run P w = .ok (a == b) w := fun a b => run_equalIn_int (P := P) w 9998 f1.type .i64 .i64 a b h5
  unfold Op.equal KT.val
  simp only [Op.maxDepth]
  rw [e1]
  simp only [Op.eqFields, h2, h3, ne_eq, not_false_eq_true, if_true, Sem.run_bind, p0, p1, q0, q1, Result.andThen_ok]
  cases hb : (p.1 == q.1) with
  | false => simp [KT.same, hb]
  | true =>
    cases hb2 : (p.2 == q.2) with
    | false =>
      simp [KT.same, hb, hb2, p1 p, p1 q, q1 p.2 q.2]
    | true =>
      simp [KT.same, hb, hb2, p1 p, p1 q, q1 p.2 q.2]

/-- The first entry with a key. -/
theorem run_findKey_kt {w : World} {t : TypeId} {kt : KT} (h : KtOK P t kt) (p : Int × Int) (es : List MapEntry) (l : List ((Int × Int) × Value)) (hl : es.map (fun e => (e.key, e.val)) = l.map (fun x => (kt.val x.1, x.2))) :
    ((Instr.findKey t (kt.val p) es).run P w = .ok none w ∧ ∀ x ∈ l, kt.same x.1 p = false) ∨
    ∃ (j : Nat) (q : Int × Int) (v : Value), (Instr.findKey t (kt.val p) es).run P w = .ok (some (j, v)) w ∧ l[j]? = some (q, v) ∧ kt.same q p = true ∧ ∀ i x, i < j → l[i]? = some x → kt.same x.1 p = false := by
  cases kt with
  | one k =>
    simp only [KtOK] at h
    have key : ∀ (es : List MapEntry) (l : List ((Int × Int) × Value)) (i : Nat), es.map (fun e => (e.key, e.val)) = l.map (fun x => ((KT.one k).val x.1, x.2)) →
        (Instr.findNow (.int k) ((KT.one k).val p) es i = some none ∧ ∀ x ∈ l, (KT.one k).same x.1 p = false) ∨
        ∃ j q v, Instr.findNow (.int k) ((KT.one k).val p) es i = some (some (i + j, v)) ∧ l[j]? = some (q, v) ∧ (KT.one k).same q p = true ∧ ∀ i x, i < j → l[i]? = some x → (KT.one k).same x.1 p = false := by
      intro es
      induction es with
      | nil => intro l i hl; cases l with
        | nil => exact .inl ⟨rfl, by simp⟩
        | cons => simp at hl
      | cons e es ih => intro l i hl; cases l with
        | nil => simp at hl
        | cons x l =>
          simp only [List.map_cons, List.cons.injEq, Prod.mk.injEq] at hl
          obtain ⟨⟨hk, hv⟩, hl⟩ := hl
          have hs : Instr.sameNow (.int k) ((KT.one k).val p) e.key = some (p.1 == x.1.1) := by rw [hk]; simp [KT.val, Instr.sameNow]
          cases hb : (p.1 == x.1.1) with
          | true =>
            refine .inr ⟨0, x.1, x.2, by simp [Instr.findNow, hs, hb, hv], rfl, ?_, fun i x hi => by omega⟩
            rw [same_symm]; exact hb
          | false =>
            have hx : (KT.one k).same x.1 p = false := by rw [same_symm]; exact hb
            rcases ih l (i + 1) hl with ⟨h1, h2⟩ | ⟨j, q, v, h1, h2, h3, h4⟩
            · refine .inl ⟨by simp [Instr.findNow, hs, hb, h1], fun y hy => ?_⟩
              rcases List.mem_cons.1 hy with rfl | hy
              · exact hx
              · exact h2 y hy
            · refine .inr ⟨j + 1, q, v, by simp [Instr.findNow, hs, hb, h1]; omega, by simpa using h2, h3, fun i y hi hy => ?_⟩
              cases i with
              | zero => simp at hy; subst hy; exact hx
              | succ i => exact h4 i y (by omega) (by simpa using hy)
    rcases key es l 0 hl with ⟨h1, h2⟩ | ⟨j, q, v, h1, h2⟩
    · exact .inl ⟨MapKept.run_findKey h h1, h2⟩
    · rw [Nat.zero_add] at h1
      exact .inr ⟨j, q, v, MapKept.run_findKey h h1, h2⟩
  | two =>
    have hnow : ∀ (es : List MapEntry) (i : Nat) fs, es ≠ [] → Instr.findNow (.struct fs) (KT.two.val p) es i = none := by
      intro es i fs hne
      cases es with
      | nil => exact absurd rfl hne
      | cons e es => simp [Instr.findNow, KT.val, Instr.sameNow]
    have key : ∀ (es : List MapEntry) (l : List ((Int × Int) × Value)) (i : Nat), es.map (fun e => (e.key, e.val)) = l.map (fun x => (KT.two.val x.1, x.2)) →
        ((Instr.findAsking t (KT.two.val p) es i).run P w = .ok none w ∧ ∀ x ∈ l, KT.two.same x.1 p = false) ∨
        ∃ j q v, (Instr.findAsking t (KT.two.val p) es i).run P w = .ok (some (i + j, v)) w ∧ l[j]? = some (q, v) ∧ KT.two.same q p = true ∧ ∀ i x, i < j → l[i]? = some x → KT.two.same x.1 p = false := by
      intro es
      induction es with
      | nil => intro l i hl; cases l with
        | nil => exact .inl ⟨by simp [Instr.findAsking], by simp⟩
        | cons => simp at hl
      | cons e es ih => intro l i hl; cases l with
        | nil => simp at hl
        | cons x l =>
          simp only [List.map_cons, List.cons.injEq, Prod.mk.injEq] at hl
          obtain ⟨⟨hk, hv⟩, hl⟩ := hl
          have hs : (Op.equal t (KT.two.val p) e.key).run P w = .ok (KT.two.same p x.1) w := by rw [hk]; exact run_equal_kt h p x.1
          cases hb : KT.two.same p x.1 with
          | true =>
            rw [hb] at hs
            refine .inr ⟨0, x.1, x.2, by simp [Instr.findAsking, hs, hv], rfl, ?_, fun i x hi => by omega⟩
            rw [same_symm]; exact hb
          | false =>
            have hx : KT.two.same x.1 p = false := by rw [same_symm]; exact hb
            rw [hb] at hs
            rcases ih l (i + 1) hl with ⟨h1, h2⟩ | ⟨j, q, v, h1, h2, h3, h4⟩
            · refine .inl ⟨by simp [Instr.findAsking, hs, h1], fun y hy => ?_⟩
              rcases List.mem_cons.1 hy with rfl | hy
              · exact hx
              · exact h2 y hy
            · refine .inr ⟨j + 1, q, v, by simp [Instr.findAsking, hs, h1]; omega, by simpa using h2, h3, fun i y hi hy => ?_⟩
              cases i with
              | zero => simp at hy; subst hy; exact hx
              | succ i => exact h4 i y (by omega) (by simpa using hy)
    have hall : (Instr.findKey t (KT.two.val p) es).run P w = (Instr.findAsking t (KT.two.val p) es 0).run P w ∨ es = [] := by
      obtain ⟨f0, f1, h1, _⟩ := h
      cases es with
      | nil => exact .inr rfl
      | cons e es => exact .inl (by simp [Instr.findKey, run_underlying h1, hnow (e :: es) 0 #[f0, f1] (by simp)])
    rcases hall with hall | rfl
    · rcases key es l 0 hl with ⟨h1, h2⟩ | ⟨j, q, v, h1, h2⟩
      · exact .inl ⟨by rw [hall, h1], h2⟩
      · rw [Nat.zero_add] at h1
        exact .inr ⟨j, q, v, by rw [hall, h1], h2⟩
    · obtain ⟨f0, f1, h1, _⟩ := h
      have : l = [] := by cases l with
        | nil => rfl
        | cons => simp at hl
      subst this
      exact .inl ⟨by simp [Instr.findKey, run_underlying h1, Instr.findNow], by simp⟩
end

theorem find_set_hit {α : Type} {f : α → Bool} {x : α} (hx : f x = true) : ∀ (l : List α) (j : Nat) (y : α), l[j]? = some y → (∀ i z, i < j → l[i]? = some z → f z = false) → (l.set j x).find? f = some x
  | [], j, y, h, _ => by simp at h
  | a :: l, 0, y, _, _ => by simp [hx]
  | a :: l, j + 1, y, h, hall => by
    have ha := hall 0 a (by omega) rfl
    simp only [List.set_cons_succ, List.find?_cons, ha]
    exact find_set_hit hx l j y (by simpa using h) fun i z hi hz => hall (i + 1) z (by omega) (by simpa using hz)
theorem find_set_miss {α : Type} {f : α → Bool} {x : α} (hx : f x = false) : ∀ (l : List α) (j : Nat) (y : α), l[j]? = some y → f y = false → (l.set j x).find? f = l.find? f
  | [], j, y, h, _ => by simp at h
  | a :: l, 0, y, h, hy => by simp at h; subst h; simp [hx, hy]
  | a :: l, j + 1, y, h, hy => by
    simp only [List.set_cons_succ, List.find?_cons]
    rw [find_set_miss hx l j y (by simpa using h) hy]

theorem sameBits_kt (kt : KT) {p q : Int × Int} (h : kt.same q p = true) : Instr.sameBits 10000 (kt.val q) (kt.val p) = true := by
  cases kt with
  | one k => simpa [KT.val, KT.same, Instr.sameBits] using h
  | two =>
    simp only [KT.same, Bool.and_eq_true, beq_iff_eq] at h
    simp [KT.val, Instr.sameBits, h.1, h.2]

section
variable {P : Program}
theorem run_put {w : World} {mty kty e : TypeId} {kt : KT} (h : KtOK P kty kt) (hm : P.underlying mty = some (.map kty e)) {r : Nat} {es : Array MapEntry} {clock : Nat} (hb : w.heap[r]? = some (.map es clock))
    {l : List ((Int × Int) × Value)} (hl : es.toList.map (fun e => (e.key, e.val)) = l.map (fun x => (kt.val x.1, x.2))) {g : Int × Int → Option Value} (hg : ∀ p, g p = (l.find? (fun x => kt.same x.1 p)).map (·.2)) (p : Int × Int) (v : Value) :
    ∃ (es' : Array MapEntry) (clock' : Nat) (l' : List ((Int × Int) × Value)), (Instr.mapUpdate mty (.map (some r)) (kt.val p) v).run P w = .ok () { w with heap := w.heap.setIfInBounds r (.map es' clock') } ∧
      es'.toList.map (fun e => (e.key, e.val)) = l'.map (fun x => (kt.val x.1, x.2)) ∧ ∀ q, mset kt g p v q = (l'.find? (fun x => kt.same x.1 q)).map (·.2) := by
  have hck := run_checkKey_kt (w := w) h false 9998 p
  rcases run_findKey_kt (w := w) h p es.toList l hl with ⟨h1, h2⟩ | ⟨j, q, v0, h1, h2, h3, h4⟩
  · refine ⟨es.push ⟨kt.val p, v, clock⟩, clock + 1, l ++ [(p, v)], ?_, by simp [hl], fun q => ?_⟩
    · simp [Instr.mapUpdate, run_underlying hm, MapKept.run_getObj_map hb, hck, h1, MapKept.run_setObj_map _ hb]
    · unfold mset
      rw [List.find?_append]
      cases hpq : kt.same p q with
      | true =>
        have : l.find? (fun x => kt.same x.1 q) = none := by
          rw [List.find?_eq_none]
          intro x hx
          rw [same_symm, ← same_trans kt hpq, same_symm, h2 x hx]
          simp
        simp [this, hpq]
      | false => simp [hg, hpq]
  · have hj : j < es.size := by
      have := congrArg List.length hl
      simp at this
      have := (List.getElem?_eq_some_iff.1 h2).1
      omega
    have hold : ∃ e0, es[j]? = some e0 ∧ e0.key = kt.val q ∧ e0.val = v0 := by
      refine ⟨es[j], by simp [hj], ?_⟩
      have := congrArg (fun l => l[j]?) hl
      simp only [List.getElem?_map, h2, Option.map_some] at this
      rw [Array.getElem?_toList, Array.getElem?_eq_getElem hj] at this
      simpa using this
    obtain ⟨e0, he0, hk0, _⟩ := hold
    have hks : ∀ w, (Instr.keyThatStays (((es[j]?).map (·.key)).getD (kt.val p)) (kt.val p)).run P w = .ok (kt.val p) w := by
      intro w
      rw [he0]
      simp [Instr.keyThatStays, hk0, sameBits_kt kt h3]
    refine ⟨es.modify j fun e => { e with key := kt.val p, val := v }, clock, l.set j (p, v), ?_, ?_, fun q' => ?_⟩
    · simp only [Instr.mapUpdate, Sem.run_bind, run_underlying hm, Result.andThen_ok, MapKept.run_getObj_map hb, hck, h1, hks, MapKept.run_setObj_map _ hb]
    · apply List.ext_getElem?
      intro i
      have hi := congrArg (fun l => l[i]?) hl
      simp only [List.getElem?_map] at hi ⊢
      rw [Array.getElem?_toList] at hi ⊢
      rw [Array.getElem?_modify]
      by_cases hij : j = i
      · subst hij
        rw [List.getElem?_set_self (List.getElem?_eq_some_iff.1 h2).1, he0]
        simp
      · rw [List.getElem?_set_ne hij, if_neg hij]
        exact hi
    · unfold mset
      cases hpq : kt.same p q' with
      | true =>
        rw [find_set_hit (x := (p, v)) hpq l j (q, v0) h2 fun i z hi hz => by
          have := h4 i z hi hz
          show kt.same z.1 q' = false
          rw [same_symm, ← same_trans kt hpq, same_symm]; exact this]
        simp
      | false =>
        rw [find_set_miss (x := (p, v)) hpq l j (q, v0) h2 (by show kt.same q q' = false; rw [same_trans kt h3]; exact hpq)]
        simp [hg]
theorem run_get {w : World} {mty kty e : TypeId} {kt : KT} {z : Value} (h : KtOK P kty kt) (hm : P.underlying mty = some (.map kty e)) (hz : zeroOf P e = some z) {r : Nat} {es : Array MapEntry} {clock : Nat} (hb : w.heap[r]? = some (.map es clock))
    {l : List ((Int × Int) × Value)} (hl : es.toList.map (fun e => (e.key, e.val)) = l.map (fun x => (kt.val x.1, x.2))) {g : Int × Int → Option Value} (hg : ∀ p, g p = (l.find? (fun x => kt.same x.1 p)).map (·.2)) (p : Int × Int) :
    (Instr.lookup mty (.map (some r)) (kt.val p) false).run P w = .ok ((g p).getD z) w := by
  unfold zeroOf at hz
  obtain ⟨ti, hti, hz'⟩ := Option.bind_eq_some_iff.1 hz
  have hck := run_checkKey_kt (w := w) h es.isEmpty 9998 p
  rcases run_findKey_kt (w := w) h p es.toList l hl with ⟨h1, h2⟩ | ⟨j, q, v0, h1, h2, h3, h4⟩
  · have : l.find? (fun x => kt.same x.1 p) = none := by
      rw [List.find?_eq_none]
      intro x hx
      rw [h2 x hx]
      simp
    simp [Instr.lookup, run_underlying hm, MapKept.run_getObj_map hb, hck, h1, hg, this, zeroValue, typeInfo, hti, hz']
  · have : l.find? (fun x => kt.same x.1 p) = some (q, v0) := by
      have hs := find_set_hit (f := fun x : (Int × Int) × Value => kt.same x.1 p) (x := (q, v0)) h3 l j (q, v0) h2 h4
      have hset : l.set j (q, v0) = l := by
        apply List.ext_getElem?
        intro i
        by_cases hi : j = i
        · subst hi; rw [List.getElem?_set_self (List.getElem?_eq_some_iff.1 h2).1, h2]
        · rw [List.getElem?_set_ne hi]
      rwa [hset] at hs
    simp [Instr.lookup, run_underlying hm, MapKept.run_getObj_map hb, hck, h1, hg, this]
end

theorem hasSub_of : ∀ {hp : List Ent} {n : Nat} {o : Bool} {N : HL}, hp[n]? = some (.sub o N) → hasSub hp = true
  | [], n, o, N, h => by simp at h
  | e :: r, 0, o, N, h => by simp at h; subst h; rfl
  | e :: r, n + 1, o, N, h => by
    have := hasSub_of (hp := r) (n := n) (by simpa using h)
    cases e <;> simp [hasSub, this]

section
variable {P : Program} {Γ : Nat → Option Trans} {tm : List SV} {hp : List Ent} {M F : HL} {K : SV → List Ent → HL → Prop} {ρ : Nat → Loc} {w : World} {a : Act}
variable (H : Holds ρ hp M F w) (hD : DenL ρ tm a.tmps.toList)
include H hD
theorem keyK_spec {kt : KT} {s : SV} {K' : Int × Int → Prop} {y : Value} (h : keyK kt s K') (hd : Den ρ s y) : ∃ p, K' p ∧ y = kt.val p := by
  have _ := @H
  have _ := @hD
  unfold keyK at h
  split at h
  · split at h
    · split at h
      · rename_i hk
        have := kEq_eq hk
        subst this
        simp only [Den] at hd
        exact ⟨_, h, hd.symm⟩
      · exact h.elim
    · exact h.elim
  · split at h
    · simp only [Den] at hd
      obtain ⟨cs, rfl, hd⟩ := hd
      match cs, hd with
      | [u, v], hd =>
        simp only [DenL, Den] at hd
        obtain ⟨rfl, rfl, _⟩ := hd
        exact ⟨_, h, rfl⟩
      | [], hd => simp [DenL] at hd
      | [_], hd => simp [DenL] at hd
      | _ :: _ :: _ :: _, hd => simp [DenL] at hd
    · exact h.elim
omit H hD in
theorem valsV_spec {ρ : Nat → Loc} : ∀ {l : List SV} {K' : List Value → Prop} {us : List Value}, valsV l K' → DenL ρ l us → K' us
  | [], K', [], h, _ => by simpa [valsV] using h
  | [], K', _ :: _, _, hd => by simp [DenL] at hd
  | s :: r, K', [], _, hd => by simp [DenL] at hd
  | s :: r, K', u :: us, h, hd => by
    simp only [DenL] at hd
    cases s with
    | v x =>
      simp only [valsV, Den] at h hd
      rw [← hd.1]
      exact valsV_spec (K' := fun l => K' (x :: l)) h hd.2
    | _ => simp [valsV] at h

theorem s_mkmap {o : Oper} {t : TypeId} {r : Option Operand} (ho : o.op = .makeMap t r) (h : vcOp Γ (cop P o) tm hp M K) : OpWp P o a w (Post K hp.length ρ M F w) := by
  have _ := @hD
  simp only [cop, ho] at h
  split at h
  case h_2 => simp [vcOp] at h
  simp only [vcOp, vMkmap] at h
  have hh := h w.heap.size (hput (fun _ => none) w.heap.size (some (.map #[] 0))) (fun kt => ⟨#[], 0, [], hput_self _ _ _, rfl, fun p => rfl⟩) (fun b o hb => by
    by_cases hbs : b = w.heap.size
    · exact hbs
    · rw [hput_ne _ _ hbs] at hb; cases hb)
  rw [epush_iff, lenK_eq, llen_eq] at hh
  refine .of_value (w' := w.alloc (.map #[] 0)) (v := .map (some w.heap.size)) (by simp [execOp, ho, _root_.Go.RowKit.run_makeMap]) ?_
  refine ⟨_, grow ρ hp.length (some (w.heap.size, 0, 0)), _, M, F, hh, by simp, grow_ext _ _ _, H.alloc rfl ?_ ?_, Gr.refl M F, ⟨rfl, rfl, rfl, by simp⟩, rfl⟩
  · intro b o hb
    by_cases hbs : b = w.heap.size
    · subst hbs
      rw [hput_self] at hb
      cases hb
      exact ⟨trivial, heap_alloc_new w _⟩
    · rw [hput_ne _ _ hbs] at hb; cases hb
  · rintro c ba ca _ ⟨x, hx⟩
    by_cases hbs : c = w.heap.size
    · exact hbs
    · rw [hput_ne _ _ hbs] at hx; cases hx

theorem s_mapget {o : Oper} {t kty e : TypeId} {x k : Operand} {q : KT} {ek : Option Nat} {z : Value} (ho : o.op = .lookup t x k false) (ht : P.underlying t = some (.map kty e)) (hz : zeroOf P e = some z) (hq : ktOf P kty = some q)
    (h : vcOp Γ (.mapget q ek z (carg x) (carg k)) tm hp M K) : OpWp P o a w (Post K hp.length ρ M F w) := by
  simp only [vcOp, vMapget] at h
  have hx := ev_den hD x
  split at h
  case h_2 => exact h.elim
  rename_i n r he
  rw [he] at hx
  simp only [Den] at hx
  obtain ⟨p, h, hk⟩ := keyK_spec H hD h (ev_den hD k)
  obtain ⟨ow, N, g, hn, hM, h⟩ := h
  obtain ⟨es, clock, l, hb, hl, hg⟩ := hM
  have hbw : w.heap[r]? = some (.map es clock) := by
    have := (H.ent n _ hn r _ hb).2
    cases ow with
    | true => exact this
    | false => exact H.frm _ _ (H.sub _ _ this)
  have hrun := run_get (w := w) (ktOf_ok hq) ht hz hbw hl hg p
  have hr : (execOp a.eval o).run P w = .ok (.value ((g p).getD z)) w := by
    simp [execOp, ho, ← hx, hk, hrun]
  split at h
  · obtain ⟨y, hy, h1, h2⟩ := h
    rw [hy] at hr
    exact .of_value hr (.same H h2 ⟨rfl, h1⟩)
  · obtain ⟨vs, hv, h2⟩ := h
    rw [vsK_eq] at h2
    rw [hv] at hr
    exact .of_value hr (.same H h2 ⟨vs, rfl, DenL.vs vs⟩)

theorem s_mapput {o : Oper} {t kty e : TypeId} {x k y : Operand} {q : KT} (ho : o.op = .mapUpdate t x k y) (ht : P.underlying t = some (.map kty e)) (hq : ktOf P kty = some q)
    (h : vcOp Γ (.mapput q (carg x) (carg k) (carg y)) tm hp M K) : OpWp P o a w (Post K hp.length ρ M F w) := by
  simp only [vcOp, vMapput] at h
  have hx := ev_den hD x
  split at h
  case h_2 => exact h.elim
  rename_i n r he
  rw [he] at hx
  simp only [Den] at hx
  obtain ⟨p, h, hk⟩ := keyK_spec H hD h (ev_den hD k)
  obtain ⟨N, g, hn, hM, h⟩ := h
  have hyd := ev_den hD y
  have put : ∀ (hp1 : List Ent) (M1 F1 : HL) (N1 : HL), hp1[n]? = some (.sub true N1) → MapIn N1 r q g → Holds ρ hp1 M1 F1 w → hp1.length = hp.length → Gr M F M1 F1 →
      (∀ N', (∀ b, b ≠ r → N' b = N1 b) → MapIn N' r q (mset q g p (a.eval y)) → K (.v undef) (hp1.set n (.sub true N')) M1) → OpWp P o a w (Post K hp.length ρ M F w) := by
    intro hp1 M1 F1 N1 hn1 hM1 H1 hlen hG hK
    obtain ⟨es, clock, l, hb, hl, hg⟩ := hM1
    have hbw : w.heap[r]? = some (.map es clock) := (H1.ent n _ hn1 r _ hb).2
    obtain ⟨es', clock', l', hrun, hl', hg'⟩ := run_put (w := w) (ktOf_ok hq) ht hbw hl hg p (a.eval y)
    have hr : (execOp a.eval o).run P w = .ok .skip { w with heap := w.heap.setIfInBounds r (.map es' clock') } := by
      simp [execOp, ho, ← hx, hk, hrun]
    obtain ⟨hs1, hs2⟩ := MapKept.heap_set (o' := .map es' clock') hbw
    have hKK := hK (hput N1 r (some (.map es' clock'))) (fun b hb => hput_ne _ _ hb) ⟨es', clock', l', hput_self _ _ _, hl', hg'⟩
    refine .of_skip hr ⟨_, ρ, _, M1, F1, hKK, by simp [hlen], Ext.refl _ _, H1.subSet hn1 hb trivial hs1 hs2, hG, ⟨rfl, rfl, rfl, by simp⟩, rfl⟩
  split at h
  · rename_i an wd i len hsy
    rw [hsy] at hyd
    split at h
    case h_2 => exact h.elim
    rename_i e0 ck rows hent0
    split at h
    case h_2 => exact h.elim
    rename_i hwd
    have hent := eget_ne hent0 (by simp)
    obtain ⟨hil, h⟩ := h
    have hnl : n < hp.length := (List.getElem?_eq_some_iff.1 hn).1
    have han : an ≠ n := fun h => by subst h; rw [hent] at hn; cases hn
    have hf : frz1 (.slc an wd i len) hp M fun s' hp' M' => ∃ yv N', s' = .rsl yv ∧ hp' = (hp.set an .gone).set n (.sub true N') ∧ M' = M ∧ FLe N N' ∧ OwnIn N' e0 ck yv ((rows.drop i).take len) ∧ ∀ b, blkOf yv = some b → N b = none := by
      unfold frz1
      simp only [hent0, hwd, hasSub_of hn]
      refine .exact ⟨n, N, hn, hil, fun yv N' h1 h2 h3 => ?_⟩
      rw [eset_iff, eset_iff]
      exact ⟨yv, N', by first | rfl | trivial, by first | rfl | trivial, by first | rfl | trivial, h1, h2, h3⟩
    obtain ⟨s', hp', M', F', ⟨yv, N', rfl, rfl, rfl, h1, h2, h3⟩, hlen, H', hG, hd', _⟩ := frz1_sound hf H hyd
    simp only [Den] at hd'
    have hN'r : N' r = N r := by
      obtain ⟨es, clock, l, hb, _⟩ := hM
      rw [hb]; exact h1 _ _ hb
    refine put _ _ F' N' (by rw [List.getElem?_set_self (by simpa using hnl)]) (hM.keep hN'r) H' hlen hG fun N2 q1 q2 => ?_
    rw [hd'.1] at q2
    have hr0 : ∃ es clock, N r = some (.map es clock) := by obtain ⟨es, clock, l, hb, _⟩ := hM; exact ⟨es, clock, hb⟩
    obtain ⟨es, clock, hr0⟩ := hr0
    have := h yv N2 (fun b o hb ho => by rw [q1 b hb]; exact h1 b o ho) (h2.keep fun b hb => q1 b fun hbr => by subst hbr; rw [h3 b hb] at hr0; cases hr0) h3 q2
    rw [eset_iff, eset_iff] at this
    rw [List.set_set]
    exact this
  · rename_i v hsy
    rw [hsy] at hyd
    simp only [Den] at hyd
    refine put hp M F N hn hM H rfl (Gr.refl M F) fun N' q1 q2 => ?_
    have := h N' q1 (by rw [hyd]; exact q2)
    rwa [eset_iff] at this
  · rename_i v hsy
    rw [hsy] at hyd
    simp only [Den] at hyd
    refine put hp M F N hn hM H rfl (Gr.refl M F) fun N' q1 q2 => ?_
    have := h N' q1 (by rw [← hyd.1]; exact q2)
    rwa [eset_iff] at this
  · rename_i l hsy
    rw [hsy] at hyd
    simp only [Den] at hyd
    obtain ⟨cs, hcs, hdl⟩ := hyd
    have h := valsV_spec h hdl
    refine put hp M F N hn hM H rfl (Gr.refl M F) fun N' q1 q2 => ?_
    have := h N' q1 (by rw [← hcs]; exact q2)
    rwa [eset_iff] at this
  · exact h.elim
end
end Go.Vc
