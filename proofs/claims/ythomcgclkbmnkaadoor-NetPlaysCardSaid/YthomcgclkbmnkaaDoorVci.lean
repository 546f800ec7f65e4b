/-
  Symbolic execution, part I: append.
-/
import Derived.Test.YthomcgclkbmnkaaDoorVch
namespace Go.Vc

theorem flatten_replicate_get {z : List Value} (hz : 0 < z.length) : ∀ (n q f : Nat), q < n → f < z.length → (List.replicate n z).flatten[q * z.length + f]? = z[f]?
  | 0, q, f, h, _ => by omega
  | n + 1, 0, f, _, hf => by
    rw [List.replicate_succ, List.flatten_cons, Nat.zero_mul, Nat.zero_add, List.getElem?_append_left hf]
  | n + 1, q + 1, f, h, hf => by
    rw [List.replicate_succ, List.flatten_cons, List.getElem?_append_right (by rw [Nat.succ_mul]; omega), show (q + 1) * z.length + f - z.length = q * z.length + f by rw [Nat.succ_mul]; omega]
    exact flatten_replicate_get hz n q f (by omega) hf
theorem zeroCells_list (z : Array Value) (hz : 0 < z.size) (n : Nat) : (Builtin.zeroCells z n).toList = (List.replicate n z.toList).flatten := by
  apply List.ext_getElem?
  intro j
  have hl : (List.replicate n z.toList).flatten.length = n * z.size := by simp
  by_cases hj : j < n * z.size
  · have hq : j / z.size < n := Nat.div_lt_of_lt_mul (by rwa [Nat.mul_comm])
    have hf : j % z.size < z.size := Nat.mod_lt _ hz
    have he : j = j / z.size * z.size + j % z.size := by rw [Nat.mul_comm]; exact (Nat.div_add_mod j z.size).symm
    have := flatten_replicate_get (z := z.toList) (by simpa using hz) n (j / z.size) (j % z.size) hq (by simpa using hf)
    simp only [Array.length_toList] at this
    rw [← he] at this
    rw [this]
    have hf' : j % z.size < z.size := hf
    simp [Builtin.zeroCells, hj, getElem!_pos, hf']
  · rw [List.getElem?_eq_none (by simp [Builtin.zeroCells]; omega), List.getElem?_eq_none (by rw [hl]; omega)]

theorem flatten_len {w : Nat} : ∀ (rows : List (List Value)), (∀ r ∈ rows, r.length = w) → rows.flatten.length = rows.length * w
  | [], _ => by simp
  | r :: rows, h => by
    rw [List.flatten_cons, List.length_append, h r (by simp), flatten_len rows (fun r' hr' => h r' (by simp [hr'])), List.length_cons, Nat.succ_mul]
    omega

theorem flatten_inv {w : Nat} (hw : 0 < w) (rows : List (List Value)) (h : ∀ r ∈ rows, r.length = w) {t : Nat} {x : Value} (ht : rows.flatten[t]? = some x) :
    ∃ q f r, t = q * w + f ∧ f < w ∧ rows[q]? = some r ∧ r[f]? = some x := by
  have hlt : t < rows.length * w := by rw [← flatten_len rows h]; exact (List.getElem?_eq_some_iff.1 ht).1
  have hq : t / w < rows.length := Nat.div_lt_of_lt_mul (by rwa [Nat.mul_comm])
  have hf : t % w < w := Nat.mod_lt _ hw
  have he : t = t / w * w + t % w := by rw [Nat.mul_comm]; exact (Nat.div_add_mod t w).symm
  obtain ⟨r, hr⟩ : ∃ r, rows[t / w]? = some r := ⟨_, List.getElem?_eq_getElem hq⟩
  have hrl := h r (List.mem_of_getElem? hr)
  obtain ⟨y, hy⟩ : ∃ y, r[t % w]? = some y := ⟨_, List.getElem?_eq_getElem (by omega)⟩
  have := flatten_get rows h (t / w) (t % w) r y hr hy hf
  rw [← he, ht] at this
  cases this
  exact ⟨t / w, t % w, r, he, hf, hr, hy⟩

/-- What fits, of rows. -/
def RowsFit (ck : List CK) (rows : List (List Value)) : Prop :=
  ∀ (i : Nat) (r : List Value), rows[i]? = some r → r.length = ck.length ∧ ∀ (f : Nat) (k : CK) (x : Value), ck[f]? = some k → r[f]? = some x → k.fits x

theorem RowsFit.mem {ck : List CK} {rows : List (List Value)} (h : RowsFit ck rows) : ∀ r ∈ rows, r.length = ck.length := fun r hr => by
  obtain ⟨i, hi⟩ := List.getElem?_of_mem hr
  exact (h i r hi).1
theorem RowsFit.one {ck : List CK} {rows : List (List Value)} (hw : 0 < ck.length) (h : RowsFit ck rows) : ∀ x ∈ rows.flatten, x.oneCell' = true := fun x hx => by
  obtain ⟨t, ht⟩ := List.getElem?_of_mem hx
  obtain ⟨q, f, r, _, hf, hr, hx⟩ := flatten_inv hw rows h.mem ht
  exact ((h q r hr).2 f _ x (List.getElem?_eq_getElem hf) hx).one
theorem RowsFit.append {ck : List CK} {a b : List (List Value)} (h : RowsFit ck a) (h' : RowsFit ck b) : RowsFit ck (a ++ b) := fun i r hr => by
  rcases Nat.lt_or_ge i a.length with hi | hi
  · rw [List.getElem?_append_left hi] at hr; exact h i r hr
  · rw [List.getElem?_append_right hi] at hr; exact h' _ r hr
theorem RowsFit.part {ck : List CK} {a : List (List Value)} (h : RowsFit ck a) (i n : Nat) : RowsFit ck ((a.drop i).take n) := fun j r hr => by
  rw [List.getElem?_take] at hr
  split at hr
  · rw [List.getElem?_drop] at hr; exact h _ r hr
  · cases hr
theorem RowsFit.nil (ck : List CK) : RowsFit ck [] := fun i r hr => by simp at hr
theorem RowAt.fit {ck : List CK} {cur : Array Value} {base : Nat} {rows : List (List Value)} (h : RowAt ck cur base rows) : RowsFit ck rows := fun i r hr =>
  ⟨(h i r hr).1, fun f k x hk hx => ((h i r hr).2 f k x hk hx).2⟩

theorem row_fit {ρ : Nat → Loc} {hp : List Ent} {M F : HL} {w : World} (H : Holds ρ hp M F w) {n : Nat} {own : Bool} {e : TypeId} {ck : List CK} {rows : List (List Value)}
    (he : hp[n]? = some (.row own e ck rows)) : 0 < ck.length ∧ RowsFit ck rows := by
  have h := H.ent n _ he
  simp only [EntOK] at h
  refine ⟨h.1, ?_⟩
  cases hρ : ρ n with
  | none => rw [hρ] at h; rw [h.2]; exact RowsFit.nil ck
  | some l =>
    obtain ⟨b, base, cap⟩ := l
    rw [hρ] at h
    obtain ⟨_, cur, fr, _, _, h3⟩ := h
    exact h3.fit

/-- The cells of a part of a row, one after the other. -/
theorem row_cells {ρ : Nat → Loc} {hp : List Ent} {M F : HL} {w : World} (H : Holds ρ hp M F w) {m : Nat} {own : Bool} {e : TypeId} {ck : List CK} {rows : List (List Value)}
    (he : hp[m]? = some (.row own e ck rows)) {b base cap : Nat} (hρ : ρ m = some (b, base, cap)) (j n : Nat) (t : Nat) (x : Value) (ht : ((rows.drop j).take n).flatten[t]? = some x) :
    w.cell? ((⟨b, base + j * ck.length, none⟩ : Addr).add t) = some x := by
  obtain ⟨hw, hf⟩ := row_fit H he
  obtain ⟨q, f, r, rfl, hfl, hr, hx⟩ := flatten_inv hw _ (hf.part j n).mem ht
  rw [List.getElem?_take] at hr
  split at hr
  case isFalse => cases hr
  rw [List.getElem?_drop] at hr
  have hi : j + q < rows.length := (List.getElem?_eq_some_iff.1 hr).1
  have := (row_cell H he hρ hi (List.getElem?_eq_getElem hfl)).1
  rw [add_lit, show base + j * ck.length + (q * ck.length + f) = base + ((j + q) * ck.length + f) by rw [Nat.add_mul]; omega, this]
  simp [cellAt, List.getD, hr, hx]

section
variable {P : Program} (w : World) (t u ty e : TypeId) (i : TypeInfo) (z : Value)
variable (ht : P.underlying t = some (.slice e)) (hu : ∃ e', P.underlying u = some (.slice e')) (hi : P.info? e = some i) (hz : i.zero = some z)
include ht hu hi

theorem app_room (ad : Option Addr) (sLen sCap : Nat) (xa : Option Addr) (n c : Nat) (news : List Value) (hf : (Builtin.firstCells i.size n (.slice xa n c)).run P w = .ok news.toArray w) (hroom : sLen + n ≤ sCap) (w' : World)
    (hst : ∀ a', ad = some a' → (storeCells (a'.add (sLen * i.size)) news).run P w = .ok () w') (hnone : ad = none → w' = w) :
    (Builtin.append_ #[t, u] ty #[.slice ad sLen sCap, .slice xa n c]).run P w = .ok (.slice ad (sLen + n) sCap) w' := by
  obtain ⟨e', hu⟩ := hu
  cases ad with
  | none => rw [hnone rfl]; simp [Builtin.append_, run_underlying ht, run_underlying hu, sizeOf, typeInfo, hi, Builtin.lenOf, hroom, hf]
  | some a' =>
    have := hst a' rfl
    simp [Builtin.append_, run_underlying ht, run_underlying hu, sizeOf, typeInfo, hi, Builtin.lenOf, hroom, hf, this]

include hz in
theorem app_grow (ad : Option Addr) (sLen sCap : Nat) (xa : Option Addr) (n c : Nat) (olds news : List Value) (ho : (Builtin.firstCells i.size sLen (.slice ad sLen sCap)).run P w.drew = .ok olds.toArray w.drew)
    (hf : (Builtin.firstCells i.size n (.slice xa n c)).run P w.drew = .ok news.toArray w.drew) (hg : sCap < sLen + n) (h63 : ((sLen + n : Nat) : Int) ≤ 9223372036854775807) (hfit : Builtin.nextslicecap (sLen + n) sCap * i.bytes ≤ 281474976710656) :
    (Builtin.append_ #[t, u] ty #[.slice ad sLen sCap, .slice xa n c]).run P w =
      .ok (.slice (some ⟨w.heap.size, 0, none⟩) (sLen + n) (grownCap w (sLen + n) sCap e))
        (w.drew.alloc (.cells (olds.toArray ++ news.toArray ++ Builtin.zeroCells z.cells (grownCap w (sLen + n) sCap e - (sLen + n))) e)) := by
  obtain ⟨e', hu⟩ := hu
  have hn : ¬ (sLen + n ≤ sCap) := by omega
  have h63' : ¬ (9223372036854775807 < ((sLen : Int) + (n : Int))) := by omega
  have h48' : ¬ (281474976710656 < Builtin.nextslicecap (sLen + n) sCap * i.bytes) := by omega
  simp [Builtin.append_, run_underlying ht, run_underlying hu, sizeOf, typeInfo, zeroValue, hi, hz, Builtin.lenOf, hn, h63', h48', Question.forced, hf, ho, newRow, grownCap]
  congr 2
  apply Array.ext'
  simp [List.append_assoc]
end

theorem app_growz {P : Program} (w : World) (t u ty e : TypeId) (i : TypeInfo) (z : Value) (ht : P.underlying t = some (.slice e)) (hu : ∃ k, P.underlying u = some (.int k)) (hi : P.info? e = some i) (hz : i.zero = some z)
    (ad : Option Addr) (k : IntKind) (n : Nat) (hn0 : 0 < n) (hs : 0 < i.size) (h63 : (n : Int) ≤ 9223372036854775807) (hb : (n : Int) * i.bytes ≤ 281474976710656) (hfit : Builtin.nextslicecap n 0 * i.bytes ≤ 281474976710656) :
    (Builtin.append_ #[t, u] ty #[.slice ad 0 0, .int k (n : Int)]).run P w =
      .ok (.slice (some ⟨w.heap.size, 0, none⟩) n (grownCap w n 0 e)) (w.drew.alloc (.cells (Builtin.zeroCells z.cells n ++ Builtin.zeroCells z.cells (grownCap w n 0 e - n)) e)) := by
  obtain ⟨k', hu⟩ := hu
  have hw : IntKind.i64.wrap (n : Int) = n := by rw [IntKind.wrap_i64]; omega
  have h1 : ¬ ((n : Int) < 0) := by omega
  have h2 : ¬ (281474976710656 < (n : Int) * (i.bytes : Int)) := by omega
  have h3 : ¬ (n ≤ 0) := by omega
  have h4 : ¬ (9223372036854775807 < (n : Int)) := by omega
  have h5 : ¬ (281474976710656 < Builtin.nextslicecap n 0 * i.bytes) := by omega
  have h6 : ¬ (n * i.size = 0) := Nat.ne_of_gt (Nat.mul_pos hn0 hs)
  have hf : (Builtin.firstCells i.size 0 (.slice ad 0 0)).run P w.drew = .ok #[] w.drew := by
    cases ad <;> simp [Builtin.firstCells, loadCells, loadCellsFrom]
  have h7 : ¬ n = 0 := by omega
  have h8 : ¬ i.size = 0 := by omega
  simp [Builtin.append_, run_underlying ht, run_underlying hu, sizeOf, typeInfo, zeroValue, hi, hz, asInt, asIntOf, hw, h1, h2, h3, h4, h5, h6, h7, h8, Question.forced, hf, newRow, grownCap]
theorem first_some {P : Program} {w : World} {size n : Nat} {b : Addr} {len cap : Nat} {cs : List Value} (hl : cs.length = n * size) (h : ∀ (j : Nat) (v : Value), cs[j]? = some v → w.cell? (b.add j) = some v) :
    (Builtin.firstCells size n (.slice (some b) len cap)).run P w = .ok cs.toArray w := run_firstCells_some (P := P) w size n b len cap cs hl h
theorem first_zero {P : Program} {w : World} {size len cap : Nat} (ad : Option Addr) : (Builtin.firstCells size 0 (.slice ad len cap)).run P w = .ok #[] w := by
  cases ad <;> simp [Builtin.firstCells, loadCells, loadCellsFrom]

/-- An entry is let go. -/
theorem Holds.drop {ρ : Nat → Loc} {hp : List Ent} {M F : HL} {w : World} (H : Holds ρ hp M F w) (n : Nat) : Holds ρ (hp.set n .gone) M F w := by
  have hown : ∀ m c, owns ρ (hp.set n .gone) m c → owns ρ hp m c := by
    rintro m c ⟨e1, ba, ca, h1, h2, h3⟩
    by_cases hm : n = m
    · subst hm
      rw [List.getElem?_set] at h1
      simp only [if_true] at h1
      split at h1
      · cases h1; cases h2
      · cases h1
    · rw [List.getElem?_set_ne hm] at h1
      exact ⟨e1, ba, ca, h1, h2, h3⟩
  refine ⟨fun m e1 h1 => ?_, fun m k c h1 h2 => H.sep m k c (hown _ _ h1) (hown _ _ h2), fun m c h1 => H.out m c (hown _ _ h1), H.frm, H.sub, fun m hm => H.dom m (by simpa using hm)⟩
  by_cases hm : n = m
  · subst hm
    rw [List.getElem?_set] at h1
    simp only [if_true] at h1
    split at h1
    · cases h1; trivial
    · cases h1
  · rw [List.getElem?_set_ne hm] at h1
    exact H.ent m e1 h1

/-- A row of one's own goes on under a new name. -/
theorem Holds.rebase {ρ : Nat → Loc} {hp : List Ent} {M F : HL} {w : World} (H : Holds ρ hp M F w) {n : Nat} {e : Ent} (he : hp[n]? = some e) (ho : e.own = true) {b base cap base' cap' : Nat} (hρ : ρ n = some (b, base, cap))
    {cs' : Array Value} {e' : Ent} (hE : EntOK (grow ρ hp.length (some (b, base', cap'))) M (w.setRow b cs') hp.length e') :
    Holds (grow ρ hp.length (some (b, base', cap'))) (hp.set n .gone ++ [e']) M F (w.setRow b cs') := by
  have hn : n < hp.length := (List.getElem?_eq_some_iff.1 he).1
  have hnb : owns ρ hp n b := ⟨e, base, cap, he, ho, hρ⟩
  have hlt := owns_lt H hnb
  have hcase : ∀ m c, owns (grow ρ hp.length (some (b, base', cap'))) (hp.set n .gone ++ [e']) m c → (m = hp.length ∧ c = b) ∨ (m < hp.length ∧ m ≠ n ∧ owns ρ hp m c) := by
    rintro m c ⟨e1, ba, ca, h1, h2, h3⟩
    by_cases hm : m = hp.length
    · subst hm
      rw [grow_self] at h3
      cases h3
      exact .inl ⟨rfl, rfl⟩
    · have hm' : m < hp.length := by
        have := (List.getElem?_eq_some_iff.1 h1).1
        simp at this; omega
      rw [grow_ne _ _ hm] at h3
      rw [List.getElem?_append_left (by simpa using hm')] at h1
      by_cases hmn : n = m
      · subst hmn
        rw [List.getElem?_set_self hm'] at h1
        cases h1; cases h2
      · rw [List.getElem?_set_ne hmn] at h1
        exact .inr ⟨hm', fun h => hmn h.symm, e1, ba, ca, h1, h2, h3⟩
  refine ⟨fun m e1 h1 => ?_, fun m k c h1 h2 => ?_, fun m c h1 => ?_, fun k o' hk => ?_, H.sub, fun m hm => ?_⟩
  · by_cases hm : m = hp.length
    · subst hm
      rw [List.getElem?_append_right (by simp)] at h1
      simp at h1
      subst h1
      exact hE
    · have hm' : m < hp.length := by
        have := (List.getElem?_eq_some_iff.1 h1).1
        simp at this; omega
      rw [List.getElem?_append_left (by simpa using hm')] at h1
      by_cases hmn : n = m
      · subst hmn
        rw [List.getElem?_set_self hm'] at h1
        cases h1
        trivial
      · rw [List.getElem?_set_ne hmn] at h1
        refine (H.ent m e1 h1).keep (H.le (grow_ext _ _ _)) (grow_ne _ _ hm) (FLe.refl M) fun c ba ca h2 h3 => ?_
        refine setRow_other w b c cs' fun hc => hmn ?_
        subst hc
        exact H.sep n m c hnb ⟨e1, ba, ca, h1, h2, h3⟩
  · rcases hcase m c h1 with ⟨hm, hc⟩ | ⟨hm, hmn, h1'⟩ <;> rcases hcase k c h2 with ⟨hk, hc'⟩ | ⟨hk, hkn, h2'⟩
    · exact hm.trans hk.symm
    · subst hc; exact absurd (H.sep _ _ _ h2' hnb) hkn
    · subst hc'; exact absurd (H.sep _ _ _ h1' hnb) hmn
    · exact H.sep m k c h1' h2'
  · rcases hcase m c h1 with ⟨hm, hc⟩ | ⟨hm, hmn, h1⟩
    · subst hc; exact H.out n c hnb
    · exact H.out m c h1
  · rw [setRow_other w b k cs' ?_]
    · exact H.frm k o' hk
    · intro hc
      subst hc
      rw [H.out n k hnb] at hk
      cases hk
  · rw [grow_ne _ _ (by simp at hm; omega)]
    exact H.dom m (by simp at hm; omega)

section
variable {P : Program} {Γ : Nat → Option Trans} {tm : List SV} {hp : List Ent} {M F : HL} {K : SV → List Ent → HL → Prop} {ρ : Nat → Loc} {w : World} {a : Act}
variable (H : Holds ρ hp M F w) (hD : DenL ρ tm a.tmps.toList)

/-- What 'vRows' says of the appended slice. -/
theorem vRows_spec {x : SV} {ck : List CK} {K' : Nat → List (List Value) → Prop} {y : Value} (H : Holds ρ hp M F w) (hw : 0 < ck.length) (hd : Den ρ x y) (h : vRows x ck hp M K') :
    ∃ n news ad c, K' n news ∧ y = .slice ad n c ∧ news.length = n ∧ RowsFit ck news ∧
      (n = 0 ∨ ∃ b, ad = some b ∧ ∀ (j : Nat) (v : Value), news.flatten[j]? = some v → w.cell? (b.add j) = some v) := by
  unfold vRows at h
  split at h
  · rename_i hn
    obtain ⟨ad, rfl⟩ := isNilS_den hn hd
    exact ⟨0, [], ad, 0, h, rfl, rfl, RowsFit.nil ck, .inl rfl⟩
  · split at h
    case h_3 => exact h.elim
    case h_2 =>
      rename_i y' _
      obtain ⟨e, rows, hR, h⟩ := h
      simp only [Den] at hd
      obtain ⟨rfl, ad, n, c, rfl, _, _⟩ := hd
      have hn := hR.len
      simp only [slen] at hn
      subst hn
      refine ⟨_, rows, ad, c, h, rfl, rfl, ?_, ?_⟩
      · obtain ⟨_, ⟨rfl, _⟩ | ⟨b, base, c', cur, fr, _, _, _, hr⟩⟩ := hR
        · exact RowsFit.nil ck
        · exact hr.fit
      · obtain ⟨_, ⟨rfl, _⟩ | ⟨b, base, c', cur, fr, hy, _, hM, hr⟩⟩ := hR
        · exact .inl rfl
        · cases hy
          refine .inr ⟨_, rfl, fun j v hv => ?_⟩
          obtain ⟨q, f, r, rfl, hf, hq, hx⟩ := flatten_inv hw rows hr.fit.mem hv
          rw [add_lit, cell_in (H.frm _ _ (H.sub _ _ hM))]
          exact ((hr q r hq).2 f _ v (List.getElem?_eq_getElem hf) hx).1
    rename_i m wd j n hnn
    split at h
    case h_2 => exact h.elim
    rename_i own e' ck' rows he
    have he := eget_ne he (by simp)
    split at h
    case h_2 => exact h.elim
    rename_i hck hwd
    have hck : ck' = ck := by simpa using hck
    subst hck
    rw [llen_eq] at hwd
    have hwd := Nat.eq_of_beq_eq_true hwd
    subst hwd
    simp only [Den] at hd
    obtain ⟨ad, c, rfl, hlc, hor⟩ := hd
    obtain ⟨hjn, h⟩ := h
    obtain ⟨_, hfit⟩ := row_fit H he
    refine ⟨n, _, ad, c, h, rfl, by simp; omega, hfit.part j n, ?_⟩
    rcases hor with rfl | ⟨b, base, cap, hρ, rfl, hcap⟩
    · exact .inl (by omega)
    · exact .inr ⟨_, rfl, row_cells H he hρ j n⟩

include H hD
theorem s_append {o : Oper} {c : Call} {t u e : TypeId} {x y : Operand} {z : Value} (ho : o.op = .call c) (hc1 : c.callee = .builtin .append) (hc2 : c.args = #[x, y]) (hc3 : c.argTypes = #[t, u]) (ht : P.underlying t = some (.slice e))
    (hu : ∃ e', P.underlying u = some (.slice e')) (hz : zeroOf P e = some z) (hzs : z.cells.size = szOf P e) (hsz0 : szOf P e = (cks P e).length) (hby0 : 0 < byOf P e)
    (h : vcOp Γ (.append e (cks P e) z.cells.toList (byOf P e) (carg x) (carg y)) tm hp M K) : OpWp P o a w (Post K hp.length ρ M F w) := by
  unfold zeroOf at hz
  obtain ⟨ti, hti, hz'⟩ := Option.bind_eq_some_iff.1 hz
  have hsz : szOf P e = ti.size := by simp [szOf, hti]
  have hby : byOf P e = ti.bytes := by simp [byOf, hti]
  have hts : ti.size = (cks P e).length := by omega
  have run : ∀ {v : Value} {w' : World}, (Builtin.append_ #[t, u] o.type #[a.eval x, a.eval y]).run P w = .ok v w' → (execOp a.eval o).run P w = .ok (.value v) w' := by
    intro v w' hr
    simp only [execOp, ho, resolve, hc1, hc2, hc3, invoke, builtin, Sem.run_bind, Sem.run_pure, Result.andThen_ok, List.map_toArray, List.map_cons, List.map_nil, hr]
  simp only [vcOp, vAppend] at h
  split at h
  · exact h.elim
  rename_i c0 cr hck
  have hw : 0 < (cks P e).length := by rw [hck]; simp
  have h' := vRows_spec H hw (ev_den hD y) h
  clear h
  obtain ⟨n, news, xa, xc, h, hy, hnl, hnf, hnc⟩ := h'
  have hnfl : news.flatten.length = n * ti.size := by rw [flatten_len news hnf.mem, hnl, hts]
  have hfirst : ∀ w', (∀ ad v, w.cell? ad = some v → w'.cell? ad = some v) → (Builtin.firstCells ti.size n (.slice xa n xc)).run P w' = .ok news.flatten.toArray w' := by
    intro w' hc'
    rcases hnc with rfl | ⟨b, rfl, hcell⟩
    · have : news = [] := List.eq_nil_of_length_eq_zero hnl
      subst this
      simpa using first_zero (P := P) (w := w') (size := ti.size) (len := 0) (cap := xc) xa
    · exact first_some hnfl fun j v hv => hc' _ _ (hcell j v hv)
  have hsame : ∀ ad v, w.cell? ad = some v → w.cell? ad = some v := fun _ _ h => h
  have hdrew : ∀ ad v, w.cell? ad = some v → w.drew.cell? ad = some v := fun _ _ h => h
  -- a new block
  have fresh : ∀ (ad : Option Addr) (sLen sCap : Nat) (olds : List (List Value)) (hp1 : List Ent), a.eval x = .slice ad sLen sCap → hp1.length = hp.length → Holds ρ hp1 M F w → olds.length = sLen → RowsFit (cks P e) olds →
      (Builtin.firstCells ti.size sLen (.slice ad sLen sCap)).run P w.drew = .ok olds.flatten.toArray w.drew → sCap < sLen + n → (sLen + n) * ti.bytes ≤ 140737488355328 →
      K (.slc hp.length (cks P e).length 0 (sLen + n)) (hp1 ++ [.row true e (cks P e) (olds ++ news)]) M → OpWp P o a w (Post K hp.length ρ M F w) := by
    intro ad sLen sCap olds hp1 hx hl1 H1 hol hof hfo hg hb hK
    have h63 : sLen + n ≤ 140737488355328 := Nat.le_trans (Nat.le_mul_of_pos_right _ (by omega)) hb
    have hr := app_grow (P := P) w t u o.type e ti z ht hu hti hz' ad sLen sCap xa n xc olds.flatten news.flatten hfo (hfirst w.drew hdrew) hg (by omega) (growslice_fits hg hb)
    rw [← hx, ← hy] at hr
    have hge := grownCap_ge w (sLen + n) sCap e
    have hcm := grownCap_le_maxLen w (sLen + n) sCap e (by unfold maxLen; omega)
    have hofl : olds.flatten.length = sLen * ti.size := by rw [flatten_len olds hof.mem, hol, hts]
    have hcsz : (olds.flatten.toArray ++ news.flatten.toArray ++ Builtin.zeroCells z.cells (grownCap w (sLen + n) sCap e - (sLen + n))).size = grownCap w (sLen + n) sCap e * (cks P e).length := by
      rw [Array.size_append, Array.size_append, List.size_toArray, List.size_toArray, size_zeroCells, hofl, hnfl, hzs, hsz, ← Nat.add_mul, ← Nat.add_mul, ← hsz0, hsz]
      congr 1
      omega
    have H2 := H1.newRow (w' := w.drew.alloc (.cells (olds.flatten.toArray ++ news.flatten.toArray ++ Builtin.zeroCells z.cells (grownCap w (sLen + n) sCap e - (sLen + n))) e)) (rows := olds ++ news) rfl hw hcm hcsz (by simp [hol, hnl]; omega)
      (rowAt_flatten (hof.append hnf) (fun j v hj => by
        rw [Nat.zero_add]
        rw [List.flatten_append] at hj
        have hjl := (List.getElem?_eq_some_iff.1 hj).1
        rw [← Array.getElem?_toList]
        simp only [Array.toList_append, List.toList_toArray]
        rw [List.getElem?_append_left (by simpa using hjl)]
        exact hj))
    rw [hl1] at H2
    refine .of_value (run hr) ⟨_, grow ρ hp.length (some (w.heap.size, 0, grownCap w (sLen + n) sCap e)), _, M, F, hK, by simp [hl1], grow_ext _ _ _, H2, Gr.refl M F, ⟨rfl, rfl, rfl, by simp⟩, ?_⟩
    exact ⟨_, _, rfl, hge, .inr ⟨w.heap.size, 0, _, grow_self _ _ _, by simp, by omega⟩⟩
  -- nothing is there, nothing is added
  have empty : ∀ (ad : Option Addr) (hp1 : List Ent), a.eval x = .slice ad 0 0 → hp1.length = hp.length → Holds ρ hp1 M F w → n = 0 →
      K (.slc hp.length (cks P e).length 0 0) (hp1 ++ [.row true e (cks P e) []]) M → OpWp P o a w (Post K hp.length ρ M F w) := by
    intro ad hp1 hx hl1 H1 hn hK
    subst hn
    have : news = [] := List.eq_nil_of_length_eq_zero hnl
    subst this
    have hr := app_room (P := P) w t u o.type e ti ht hu hti ad 0 0 xa 0 xc [] (by simpa using hfirst w hsame) (Nat.le_refl _) w (fun a' _ => rfl) (fun _ => rfl)
    rw [← hx, ← hy] at hr
    exact .of_value (run hr) ⟨_, ρ, _, M, F, hK, by simp [hl1], Ext.refl _ _, H1.nilRow true e (cks P e) hw, Gr.refl M F, Same.refl w, ⟨ad, 0, hx, Nat.le_refl _, .inl rfl⟩⟩
  -- in place
  have inpl : ∀ (sv : SV) (an i len cp b base cap : Nat) (rows : List (List Value)), hp[an]? = some (.row true e (cks P e) rows) → ρ an = some (b, base, cap) → i + len ≤ rows.length → i + cp ≤ cap →
      a.eval x = .slice (some ⟨b, base + i * (cks P e).length, none⟩) len cp → len + n ≤ cp → K sv ((hp.set an .gone) ++ [.row true e (cks P e) ((rows.drop i).take len ++ news)]) M →
      (∀ ρ' : Nat → Loc, ρ' hp.length = some (b, base + i * (cks P e).length, cap - i) → Den ρ' sv (.slice (some ⟨b, base + i * (cks P e).length, none⟩) (len + n) cp)) → OpWp P o a w (Post K hp.length ρ M F w) := by
    intro sv an i len cp b base cap rows hent hρ hil hcap hx hroom h hden
    obtain ⟨_, hfit⟩ := row_fit H hent
    have hof := hfit.part i len
    have hol : ((rows.drop i).take len).length = len := by simp; omega
    have hocells := row_cells H hent hρ i len
    have hofl : ((rows.drop i).take len).flatten.length = len * ti.size := by rw [flatten_len _ hof.mem, hol, hts]
    have hE := H.ent an _ hent
    simp only [EntOK, hρ, if_true] at hE
    obtain ⟨_, cur, fr, ⟨hb1, hcsz, hcm⟩, hrl, hrow⟩ := hE
    have hmul : ∀ q, q ≤ cap → q * (cks P e).length ≤ cap * (cks P e).length := fun q hq => Nat.mul_le_mul_right _ hq
    have hfitn : base + i * (cks P e).length + len * ti.size + news.flatten.length ≤ cur.size := by
      rw [hnfl, hcsz, hts]
      have := hmul (i + len + n) (by omega)
      rw [Nat.add_mul, Nat.add_mul] at this
      omega
    have hst := run_storeCells_at P b (base + i * (cks P e).length + len * ti.size) e news.flatten 0 cur w hb1 (by rw [Nat.add_zero]; exact hfitn) (hnf.one hw)
    simp only [Nat.add_zero] at hst
    have hr := app_room (P := P) w t u o.type e ti ht hu hti (some ⟨b, base + i * (cks P e).length, none⟩) len cp xa n xc news.flatten (hfirst w hsame) hroom _
      (fun a' ha' => by cases ha'; rw [add_lit]; exact hst) (fun hno => by cases hno)
    rw [← hx, ← hy] at hr
    have hcs' : (cur.toList.take (base + i * (cks P e).length + len * ti.size) ++ news.flatten ++ cur.toList.drop (base + i * (cks P e).length + len * ti.size + news.flatten.length)).toArray.size = cur.size := by
      simp only [List.size_toArray, List.length_append, List.length_take, List.length_drop, Array.length_toList]; omega
    have H2 := H.rebase hent rfl hρ (base' := base + i * (cks P e).length) (cap' := cap - i) (cs' := (cur.toList.take (base + i * (cks P e).length + len * ti.size) ++ news.flatten ++ cur.toList.drop (base + i * (cks P e).length + len * ti.size + news.flatten.length)).toArray)
      (e' := .row true e (cks P e) ((rows.drop i).take len ++ news)) (by
        simp only [EntOK, grow_self, if_true]
        refine ⟨hw, _, (0, 0), ⟨setRow_heap w b cur _ e _ hb1, ?_, by omega⟩, by simp [hnl]; omega, ?_⟩
        · rw [hcs', hcsz, Nat.sub_mul]
          have := hmul i (by omega)
          omega
        · refine rowAt_flatten (hof.append hnf) fun j v hj => ?_
          rw [List.flatten_append] at hj
          simp only [List.getElem?_toArray]
          rw [take_over (by simpa using hfitn)]
          by_cases hjl : j < len * ti.size
          · rw [if_neg (by omega)]
            rw [List.getElem?_append_left (by omega)] at hj
            have h5 := hocells j v hj
            rw [add_lit, cell_in hb1] at h5
            simpa using h5
          · have hjl2 := (List.getElem?_eq_some_iff.1 hj).1
            rw [List.length_append, hofl] at hjl2
            rw [if_pos ⟨by omega, by omega⟩]
            rw [List.getElem?_append_right (by omega), hofl] at hj
            rw [← hj]
            congr 1
            omega)
    exact .of_value (run hr) ⟨_, grow ρ hp.length (some (b, base + i * (cks P e).length, cap - i)), _, M, F, h, by simp, grow_ext _ _ _, H2, Gr.refl M F, Same.setRow _ _ _, hden _ (grow_self _ _ _)⟩
  split at h
  · rename_i hnil
    obtain ⟨ad, hx⟩ := isNilS_den hnil (ev_den hD x)
    obtain ⟨hb, h⟩ := h
    rw [epush_iff, lenK_eq, lenK_eq, llen_eq, llen_eq] at h
    by_cases hn : n = 0
    · have : news = [] := List.eq_nil_of_length_eq_zero (by omega)
      subst this
      subst hn
      exact empty ad hp hx rfl H rfl h
    · exact fresh ad 0 0 [] hp hx rfl H rfl (RowsFit.nil _) (by simpa using first_zero (P := P) (w := w.drew) (size := ti.size) (len := 0) (cap := 0) ad) (by omega) (by rw [Nat.zero_add, ← hby]; exact hb) (by simpa using h)
  · split at h
    case h_4 => exact h.elim
    case h_2 =>
      rename_i an wd len cp he
      have hx := ev_den hD x
      rw [he] at hx
      simp only [Den] at hx
      obtain ⟨b, base, cap, hρ, hx, hlc, hcc⟩ := hx
      split at h
      case h_2 => exact h.elim
      rename_i e' ck' rows hent
      have hent := eget_ne hent (by simp)
      split at h
      case h_2 => exact h.elim
      rename_i hee hckk hwd
      have hee := Nat.eq_of_beq_eq_true hee
      subst hee
      have hckk : ck' = cks P e := by simpa using hckk
      subst hckk
      obtain ⟨hroom, hil, h⟩ := h
      rw [eset_iff, epush_iff, lenK_eq, lenK_eq, llen_eq, llen_eq] at h
      exact inpl (.slx hp.length (cks P e).length (len + n) cp) an 0 len cp b base cap rows hent hρ (by omega) (by omega) (by rw [hx]; simp) hroom (by rw [List.drop_zero]; exact h) fun ρ' hρ' => by simp only [Den]; exact ⟨b, base + 0 * (cks P e).length, cap - 0, hρ', rfl, hroom, by omega⟩
    case h_3 =>
      rename_i y he
      have hx := ev_den hD x
      rw [he] at hx
      simp only [Den] at hx
      obtain ⟨hx, _⟩ := hx
      obtain ⟨rows, hR, hsc, hn0, hb, h⟩ := h
      rw [epush_iff, lenK_eq, lenK_eq, llen_eq, llen_eq] at h
      rw [hby] at hb
      obtain ⟨h0, hR⟩ := hR
      rcases hR with ⟨rfl, ad, rfl⟩ | ⟨b, base, c, cur, fr, rfl, hlc, hM, hrow⟩
      · exact fresh ad 0 0 [] hp hx rfl H rfl (RowsFit.nil _) (by simpa using first_zero (P := P) (w := w.drew) (size := ti.size) (len := 0) (cap := 0) ad) (by omega) (by simpa using hb) (by simpa using h)
      · have hsc : c = rows.length := hsc
        subst hsc
        have hof : RowsFit (cks P e) rows := fun i r hr => ⟨(hrow i r hr).1, fun f k v hk hv => ((hrow i r hr).2 f k v hk hv).2⟩
        have hocells : ∀ (j : Nat) (v : Value), rows.flatten[j]? = some v → w.cell? ((⟨b, base, none⟩ : Addr).add j) = some v := fun j v hj => by
          obtain ⟨q, f, r, rfl, hf, hr, hv⟩ := flatten_inv hw rows hof.mem hj
          rw [add_lit, cell_in (H.frm _ _ (H.sub _ _ hM))]
          exact ((hrow q r hr).2 f _ v (List.getElem?_eq_getElem hf) hv).1
        have hofl : rows.flatten.length = rows.length * ti.size := by rw [flatten_len _ hof.mem, hts]
        exact fresh _ rows.length rows.length rows hp hx rfl H rfl hof (first_some hofl hocells) (by omega) hb h
    rename_i an wd i len he
    have hx := ev_den hD x
    rw [he] at hx
    simp only [Den] at hx
    obtain ⟨ad, cp, hx, hlc, hor⟩ := hx
    split at h
    case h_2 => exact h.elim
    rename_i e' ck' rows hent
    have hent := eget_ne hent (by simp)
    split at h
    case h_2 => exact h.elim
    rename_i hee hckk hwd
    have hee := Nat.eq_of_beq_eq_true hee
    subst hee
    have hckk : ck' = cks P e := by simpa using hckk
    subst hckk
    rw [llen_eq] at hwd
    have hwd := Nat.eq_of_beq_eq_true hwd
    subst hwd
    obtain ⟨hb, hil, h⟩ := h
    rw [eset_iff, epush_iff, lenK_eq, lenK_eq, llen_eq, llen_eq] at h
    obtain ⟨_, hfit⟩ := row_fit H hent
    have hof := hfit.part i len
    have hol : ((rows.drop i).take len).length = len := by simp; omega
    rw [hby] at hb
    have H1 := H.drop an
    rcases hor with rfl | ⟨b, base, cap, hρ, rfl, hcap⟩
    · obtain rfl : len = 0 := by omega
      by_cases hn : n = 0
      · have : news = [] := List.eq_nil_of_length_eq_zero (by omega)
        subst this
        subst hn
        exact empty ad _ hx (by simp) H1 rfl (by simpa using h)
      · exact fresh ad 0 0 [] _ hx (by simp) H1 rfl (RowsFit.nil _) (by simpa using first_zero (P := P) (w := w.drew) (size := ti.size) (len := 0) (cap := 0) ad) (by omega) hb (by simpa using h)
    · have hocells := row_cells H hent hρ i len
      have hofl : ((rows.drop i).take len).flatten.length = len * ti.size := by rw [flatten_len _ hof.mem, hol, hts]
      by_cases hroom : len + n ≤ cp
      · exact inpl _ an i len cp b base cap rows hent hρ hil hcap hx hroom h fun ρ' hρ' => ⟨_, cp, rfl, hroom, .inr ⟨b, base + i * (cks P e).length, cap - i, hρ', by simp, by omega⟩⟩
      · exact fresh _ len cp _ _ hx (by simp) H1 hol hof (first_some hofl hocells) (by omega) hb h
end
section
variable {P : Program} {Γ : Nat → Option Trans} {tm : List SV} {hp : List Ent} {M F : HL} {K : SV → List Ent → HL → Prop} {ρ : Nat → Loc} {w : World} {a : Act}
variable (H : Holds ρ hp M F w) (hD : DenL ρ tm a.tmps.toList)
include H hD
theorem s_appendz {o : Oper} {c : Call} {t u e : TypeId} {x y : Operand} {z : Value} (ho : o.op = .call c) (hc1 : c.callee = .builtin .append) (hc2 : c.args = #[x, y]) (hc3 : c.argTypes = #[t, u]) (ht : P.underlying t = some (.slice e))
    (hu : ∃ k, P.underlying u = some (.int k)) (hz : zeroOf P e = some z) (hfz : fitsAll (cks P e) z.cells.toList = true) (hsz0 : szOf P e = (cks P e).length) (hby0 : 0 < byOf P e)
    (h : vcOp Γ (.appendz e (cks P e) z.cells.toList (byOf P e) (carg x) (carg y)) tm hp M K) : OpWp P o a w (Post K hp.length ρ M F w) := by
  unfold zeroOf at hz
  obtain ⟨ti, hti, hz'⟩ := Option.bind_eq_some_iff.1 hz
  have hsz : szOf P e = ti.size := by simp [szOf, hti]
  have hby : byOf P e = ti.bytes := by simp [byOf, hti]
  have run : ∀ {v : Value} {w' : World}, (Builtin.append_ #[t, u] o.type #[a.eval x, a.eval y]).run P w = .ok v w' → (execOp a.eval o).run P w = .ok (.value v) w' := by
    intro v w' hr
    simp only [execOp, ho, resolve, hc1, hc2, hc3, invoke, builtin, Sem.run_bind, Sem.run_pure, Result.andThen_ok, List.map_toArray, List.map_cons, List.map_nil, hr]
  simp only [vcOp, vAppz] at h
  split at h
  · exact h.elim
  rename_i c0 cr hck
  have hw : 0 < (cks P e).length := by rw [hck]; simp
  split at h
  case h_2 => exact h.elim
  rename_i hnil
  obtain ⟨ad, hx⟩ := isNilS_den hnil (ev_den hD x)
  obtain ⟨k, m, hy, h⟩ := int_den h (ev_den hD y)
  obtain ⟨hm0, hb, h⟩ := h
  obtain ⟨n, rfl⟩ : ∃ n : Nat, m = n := ⟨m.toNat, by omega⟩
  rw [epush_iff, lenK_eq, lenK_eq, llen_eq, llen_eq, Int.toNat_natCast] at h
  have hn0 : 0 < n := by omega
  have hbn : n * ti.bytes ≤ 140737488355328 := by rw [← hby]; rw [← Int.natCast_mul] at hb; omega
  have hn1 : n ≤ 140737488355328 := Nat.le_trans (Nat.le_mul_of_pos_right _ (by omega)) hbn
  obtain ⟨hzl, hzf⟩ := fitsAll_spec hfz
  have hzs : z.cells.size = ti.size := by rw [← hsz, hsz0, ← hzl, Array.length_toList]
  have hrep : RowsFit (cks P e) (List.replicate n z.cells.toList) := fun j r hr => by
    rw [List.getElem?_replicate] at hr
    split at hr
    · cases hr; exact ⟨hzl, hzf⟩
    · cases hr
  have hr := app_growz w t u o.type e ti z ht hu hti hz' ad k n hn0 (by omega) (by omega) (by have : (n * ti.bytes : Nat) ≤ 281474976710656 := Nat.le_trans hbn (by decide); rw [← Int.natCast_mul]; omega) (growslice_fits hn0 hbn)
  rw [← hx, ← hy] at hr
  have hge := grownCap_ge w n 0 e
  have hcm := grownCap_le_maxLen w n 0 e (by unfold maxLen; omega)
  have hzc := zeroCells_list z.cells (by omega) n
  have hfl : (List.replicate n z.cells.toList).flatten.length = n * ti.size := by rw [flatten_len _ hrep.mem, List.length_replicate, ← hsz0, hsz]
  have hcsz : (Builtin.zeroCells z.cells n ++ Builtin.zeroCells z.cells (grownCap w n 0 e - n)).size = grownCap w n 0 e * (cks P e).length := by
    rw [Array.size_append, size_zeroCells, size_zeroCells, hzs, ← Nat.add_mul, ← hsz0, hsz]
    congr 1
    omega
  have H2 := H.newRow (w' := w.drew.alloc (.cells (Builtin.zeroCells z.cells n ++ Builtin.zeroCells z.cells (grownCap w n 0 e - n)) e)) (rows := List.replicate n z.cells.toList) rfl hw hcm hcsz (by rw [List.length_replicate]; exact hge)
    (rowAt_flatten hrep (fun j v hj => by
      rw [Nat.zero_add]
      have hjl := (List.getElem?_eq_some_iff.1 hj).1
      rw [← Array.getElem?_toList, Array.toList_append, hzc, List.getElem?_append_left hjl]
      exact hj))
  refine .of_value (run hr) ⟨_, grow ρ hp.length (some (w.heap.size, 0, grownCap w n 0 e)), _, M, F, h, by simp, grow_ext _ _ _, H2, Gr.refl M F, ⟨rfl, rfl, rfl, by simp⟩, ?_⟩
  exact ⟨_, _, rfl, hge, .inr ⟨w.heap.size, 0, _, grow_self _ _ _, by simp, by omega⟩⟩
theorem s_clr {o : Oper} {c : Call} {t e : TypeId} {x : Operand} {z : Value} (ho : o.op = .call c) (hc1 : c.callee = .builtin .clear) (hc2 : c.args = #[x]) (hc3 : c.argTypes = #[t]) (ht : P.underlying t = some (.slice e))
    (hz : zeroOf P e = some z) (hfz : fitsAll (cks P e) z.cells.toList = true) (hsz0 : szOf P e = (cks P e).length)
    (h : vcOp Γ (.clr e (cks P e) z.cells.toList (carg x)) tm hp M K) : OpWp P o a w (Post K hp.length ρ M F w) := by
  unfold zeroOf at hz
  obtain ⟨ti, hti, hz'⟩ := Option.bind_eq_some_iff.1 hz
  have hsz : szOf P e = ti.size := by simp [szOf, hti]
  have hx := ev_den hD x
  have run : ∀ {v : Value} {w' : World}, (Builtin.clear_ #[t] o.type #[a.eval x]).run P w = .ok v w' → (execOp a.eval o).run P w = .ok (.value v) w' := by
    intro v w' hr
    simp only [execOp, ho, resolve, hc1, hc2, hc3, invoke, builtin, Sem.run_bind, Sem.run_pure, Result.andThen_ok, List.map_toArray, List.map_cons, List.map_nil, hr]
  have empty : ∀ ad cp, a.eval x = .slice ad 0 cp → (Builtin.clear_ #[t] o.type #[a.eval x]).run P w = .ok (.tuple #[]) w := by
    intro ad cp he
    rw [he]
    cases ad <;> simp [Builtin.clear_, run_underlying ht]
  simp only [vcOp, vClr] at h
  split at h
  · rename_i hn
    obtain ⟨ad, hv⟩ := isNilS_den hn hx
    exact .of_value (run (empty _ _ hv)) (.same H h ⟨[], rfl, trivial⟩)
  · split at h
    case h_2 => exact h.elim
    rename_i n wd i len he
    rw [he] at hx
    simp only [Den] at hx
    obtain ⟨ad, cp, hv, hlc, hor⟩ := hx
    split at h
    case h_2 => exact h.elim
    rename_i e' ck' rows hent
    have hent := eget_ne hent (by simp)
    split at h
    case h_2 => exact h.elim
    rename_i hee hck hwd
    have hee := Nat.eq_of_beq_eq_true hee
    subst hee
    have hck : ck' = cks P e := by simpa using hck
    subst hck
    rw [llen_eq] at hwd
    have hwd := Nat.eq_of_beq_eq_true hwd
    subst hwd
    obtain ⟨hil, h⟩ := h
    rw [eset_iff] at h
    obtain ⟨hzl, hzf⟩ := fitsAll_spec hfz
    obtain ⟨hw, hrf⟩ := row_fit H hent
    have hrep : RowsFit (cks P e) (List.replicate len z.cells.toList) := fun j r hr => by
      rw [List.getElem?_replicate] at hr
      split at hr
      · cases hr; exact ⟨hzl, hzf⟩
      · cases hr
    by_cases hl0 : len = 0
    · subst hl0
      have e1 : rows.take i ++ List.replicate 0 z.cells.toList ++ rows.drop (i + 0) = rows := by simp
      rw [e1] at h
      have e2 : hp.set n (.row true e (cks P e) rows) = hp := by
        apply List.ext_getElem?
        intro j
        by_cases hj : n = j
        · subst hj; rw [List.getElem?_set_self (List.getElem?_eq_some_iff.1 hent).1, hent]
        · rw [List.getElem?_set_ne hj]
      rw [e2] at h
      exact .of_value (run (empty _ _ hv)) (.same H h ⟨[], rfl, trivial⟩)
    · rcases hor with h0 | ⟨b, base, cap, hρ, rfl, hcap⟩
      · omega
      have hE := H.ent n _ hent
      simp only [EntOK, hρ, if_true] at hE
      obtain ⟨_, cur, fr, ⟨hb1, hcsz, hcm⟩, hrl, hrow⟩ := hE
      have hzs : z.cells.size = (cks P e).length := by simpa using hzl
      have hzc := zeroCells_list z.cells (by omega) len
      have hfl : (List.replicate len z.cells.toList).flatten.length = len * (cks P e).length := by rw [flatten_len _ hrep.mem]; simp
      have hmul : ∀ q, q ≤ cap → q * (cks P e).length ≤ cap * (cks P e).length := fun q hq => Nat.mul_le_mul_right _ hq
      have hfit : base + i * (cks P e).length + (List.replicate len z.cells.toList).flatten.length ≤ cur.size := by
        rw [hfl, hcsz]
        have := hmul (i + len) (by omega)
        rw [Nat.add_mul] at this
        omega
      have hst := run_storeCells_at P b (base + i * (cks P e).length) e (List.replicate len z.cells.toList).flatten 0 cur w hb1 (by rw [Nat.add_zero]; exact hfit) (hrep.one hw)
      simp only [Nat.add_zero] at hst
      have hr : (Builtin.clear_ #[t] o.type #[a.eval x]).run P w = .ok (.tuple #[]) (w.setRow b (cur.toList.take (base + i * (cks P e).length) ++ (List.replicate len z.cells.toList).flatten ++ cur.toList.drop (base + i * (cks P e).length + (List.replicate len z.cells.toList).flatten.length)).toArray) := by
        rw [hv]
        obtain ⟨m, rfl⟩ : ∃ m, len = m + 1 := ⟨len - 1, by omega⟩
        simp [Builtin.clear_, run_underlying ht, zeroValue, typeInfo, hti, hz', hzc, hst]
      refine .of_value (run hr) ⟨_, ρ, _, M, F, h, by simp, Ext.refl _ _, ?_, Gr.refl M F, Same.setRow _ _ _, ⟨[], rfl, trivial⟩⟩
      refine H.setRow hent rfl hρ ?_
      simp only [EntOK, hρ, if_true]
      have hcs' : (cur.toList.take (base + i * (cks P e).length) ++ (List.replicate len z.cells.toList).flatten ++ cur.toList.drop (base + i * (cks P e).length + (List.replicate len z.cells.toList).flatten.length)).toArray.size = cur.size := by
        simp only [List.size_toArray, List.length_append, List.length_take, List.length_drop, Array.length_toList]; omega
      refine ⟨hw, _, (0, 0), ⟨setRow_heap w b cur _ e _ hb1, by rw [hcs', hcsz], hcm⟩, by simp; omega, ?_⟩
      intro q r hr'
      have hq : (rows.take i ++ List.replicate len z.cells.toList ++ rows.drop (i + len))[q]? = if i ≤ q ∧ q < i + len then some z.cells.toList else rows[q]? := by
        have := take_over' (cs := rows) (f := i) (l := List.replicate len z.cells.toList) (by simpa using hil) q
        rw [List.length_replicate] at this
        rw [this]
        split
        · rw [List.getElem?_replicate, if_pos (by omega)]
        · rfl
      rw [hq] at hr'
      split at hr'
      · rename_i hin
        cases hr'
        refine ⟨hzl, fun f k x hk hx => ⟨?_, hzf f k x hk hx⟩⟩
        have hf : f < (cks P e).length := (List.getElem?_eq_some_iff.1 hk).1
        simp only [List.getElem?_toArray]
        have h1 : i * (cks P e).length ≤ q * (cks P e).length := Nat.mul_le_mul_right _ hin.1
        have h2 : (q + 1) * (cks P e).length ≤ (i + len) * (cks P e).length := Nat.mul_le_mul_right _ (by omega)
        rw [Nat.succ_mul, Nat.add_mul] at h2
        rw [take_over (by simpa using hfit), if_pos ⟨by omega, by omega⟩]
        have := flatten_replicate_get (z := z.cells.toList) (by omega) len (q - i) f (by omega) (by omega)
        rw [hzl, Nat.sub_mul] at this
        rw [show base + (q * (cks P e).length + f) - (base + i * (cks P e).length) = q * (cks P e).length - i * (cks P e).length + f by omega, this]
        exact hx
      · rename_i hout
        obtain ⟨h4, h5⟩ := hrow q r hr'
        refine ⟨h4, fun f k x hk hx => ?_⟩
        have hf : f < (cks P e).length := (List.getElem?_eq_some_iff.1 hk).1
        obtain ⟨h6, h7⟩ := h5 f k x hk hx
        refine ⟨?_, h7⟩
        simp only [List.getElem?_toArray]
        rw [take_over (by simpa using hfit), if_neg]
        · simpa using h6
        · intro ⟨ha, hb⟩
          rw [hfl] at hb
          rcases Nat.lt_or_ge q i with hlt | hge
          · have h2 : (q + 1) * (cks P e).length ≤ i * (cks P e).length := Nat.mul_le_mul_right _ (by omega)
            rw [Nat.succ_mul] at h2
            omega
          · have h2 : (i + len) * (cks P e).length ≤ q * (cks P e).length := Nat.mul_le_mul_right _ (by omega)
            rw [Nat.add_mul] at h2
            omega
end
end Go.Vc
