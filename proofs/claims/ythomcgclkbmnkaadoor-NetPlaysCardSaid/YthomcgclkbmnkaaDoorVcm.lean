/-
  Symbolic execution, part M: weakening is sound; code is sound (regions in the order of the text).
-/
import Derived.Test.YthomcgclkbmnkaaDoorVcl
namespace Go.Vc

theorem vEqV_spec {x y : Value} {K : Prop} (h : vEqV x y K) : x = y ∧ K := by
  unfold vEqV at h
  split at h
  · split at h
    · rename_i hk
      have := kEq_eq hk
      subst this
      exact ⟨by rw [h.1], h.2⟩
    · exact h.elim
  · exact ⟨by rw [h.1], h.2⟩
  · exact h

theorem nget_eq : ∀ {m : List Nat} {n : Nat}, n < m.length → m[n]? = some (nget m n)
  | _ :: _, 0, _ => rfl
  | _ :: r, n + 1, h => by simp [nget]; exact nget_eq (by simpa using h)
  | [], _, h => by simp at h

/-- The locations under the new names. -/
def ren (ρ : Nat → Loc) (m : List Nat) : Nat → Loc := fun j => match m[j]? with | some o => ρ o | none => none
theorem ren_at {ρ : Nat → Loc} {m : List Nat} {n n' : Nat} (h1 : Nat.beq (nget m n') n = true) (h2 : Nat.blt n' (llen m) = true) : ren ρ m n' = ρ n := by
  rw [llen_eq] at h2
  have h1 := Nat.eq_of_beq_eq_true h1
  have h2 : n' < m.length := by simpa [Nat.blt_eq] using h2
  simp [ren, nget_eq h2, h1]

mutual
theorem sle_spec {ρ : Nat → Loc} (m : List Nat) : ∀ (s s' : SV) (K : Prop), sle m s s' K → ∀ y, Den ρ s y → K ∧ Den (ren ρ m) s' y
  | s, .any, K, h, y, _ => ⟨by unfold sle at h; exact h, by simp [Den]⟩
  | s, .v x', K, h, y, hd => by
    unfold sle at h
    split at h
    · have := vEqV_spec h
      simp only [Den] at hd ⊢
      exact ⟨this.2, this.1 ▸ hd⟩
    · exact h.elim
  | s, .ptr n' w' i' f', K, h, y, hd => by
    unfold sle at h
    split at h
    · split at h
      · rename_i h1 h2 h3 h4
        have h3 := Nat.eq_of_beq_eq_true h3
        have h4 := Nat.eq_of_beq_eq_true h4
        subst h3; subst h4
        obtain ⟨rfl, h⟩ := h
        simp only [Den] at hd ⊢
        obtain ⟨b, base, cap, h5, h6⟩ := hd
        exact ⟨h, b, base, cap, (ren_at h1 h2).trans h5, h6⟩
      · exact h.elim
    · exact h.elim
  | s, .slc n' w' i' len', K, h, y, hd => by
    unfold sle at h
    split at h
    · rename_i hn
      obtain ⟨ad, rfl⟩ := isNilS_den hn hd
      obtain ⟨rfl, h⟩ := h
      exact ⟨h, ad, 0, rfl, Nat.le_refl _, .inl rfl⟩
    · split at h
      · split at h
        · rename_i h1 h2 h3
          have h3 := Nat.eq_of_beq_eq_true h3
          subst h3
          obtain ⟨rfl, rfl, h⟩ := h
          simp only [Den] at hd ⊢
          obtain ⟨a, c, h4, h5, h6⟩ := hd
          refine ⟨h, a, c, h4, h5, ?_⟩
          rcases h6 with h6 | ⟨b, base, cap, h7, h8⟩
          · exact .inl h6
          · exact .inr ⟨b, base, cap, (ren_at h1 h2).trans h7, h8⟩
        · exact h.elim
      · exact h.elim
  | s, .slx n' w' len' c', K, h, y, hd => by
    unfold sle at h
    split at h
    · split at h
      · rename_i h1 h2 h3
        obtain ⟨rfl, rfl, h⟩ := h
        simp only [Den] at hd ⊢
        obtain ⟨b, base, cap, h7, h8⟩ := hd
        exact ⟨h, b, base, cap, (ren_at h1 h2).trans h7, h8⟩
      · exact h.elim
    · exact h.elim
  | s, .emp, K, h, y, hd => by
    unfold sle at h
    split at h
    · rename_i hn
      obtain ⟨ad, rfl⟩ := isNilS_den hn hd
      exact ⟨h, ad, rfl⟩
    · exact h.elim
  | s, .agg l', K, h, y, hd => by
    unfold sle at h
    split at h
    · simp only [Den] at hd ⊢
      obtain ⟨cs, rfl, hd⟩ := hd
      obtain ⟨h1, h2⟩ := sleL_spec m _ l' K h cs hd
      exact ⟨h1, cs, rfl, h2⟩
    · exact h.elim
  | s, .tup l', K, h, y, hd => by
    unfold sle at h
    split at h
    · simp only [Den] at hd ⊢
      obtain ⟨cs, rfl, hd⟩ := hd
      obtain ⟨h1, h2⟩ := sleL_spec m _ l' K h cs hd
      exact ⟨h1, cs, rfl, h2⟩
    · exact h.elim
  | s, .fn f' a' b', K, h, y, hd => by
    unfold sle at h
    split at h
    · simp only [Den] at hd ⊢
      obtain ⟨x, z, rfl, hd1, hd2⟩ := hd
      obtain ⟨rfl, h⟩ := h
      obtain ⟨h1, h2⟩ := sleL_spec m _ a' _ h x hd1
      obtain ⟨h3, h4⟩ := sleL_spec m _ b' K h1 z hd2
      exact ⟨h3, x, z, rfl, h2, h4⟩
    · exact h.elim
  | s, .ifc t' x', K, h, y, hd => by
    unfold sle at h
    split at h
    · split at h
      · rename_i ht
        have ht := Nat.eq_of_beq_eq_true ht
        subst ht
        simp only [Den] at hd ⊢
        obtain ⟨z, rfl, hd⟩ := hd
        obtain ⟨h1, h2⟩ := sle_spec m _ x' K h z hd
        exact ⟨h1, z, rfl, h2⟩
      · exact h.elim
    · exact h.elim
  | s, .rsl y', K, h, y, hd => by
    unfold sle at h
    split at h
    · obtain ⟨rfl, h⟩ := h
      simp only [Den] at hd ⊢
      exact ⟨h, hd⟩
    · exact h.elim
  | s, .rpt y' w' i' f', K, h, y, hd => by
    unfold sle at h
    split at h
    · split at h
      · rename_i h1 h2
        have h1 := Nat.eq_of_beq_eq_true h1
        have h2 := Nat.eq_of_beq_eq_true h2
        subst h1; subst h2
        obtain ⟨rfl, rfl, h⟩ := h
        simp only [Den] at hd ⊢
        exact ⟨h, hd⟩
      · exact h.elim
    · exact h.elim
theorem sleL_spec {ρ : Nat → Loc} (m : List Nat) : ∀ (s s' : List SV) (K : Prop), sleL m s s' K → ∀ y, DenL ρ s y → K ∧ DenL (ren ρ m) s' y
  | l, [], K, h, y, hd => by
    unfold sleL at h
    split at h
    · cases y with
      | nil => exact ⟨h, by simp [DenL]⟩
      | cons => simp [DenL] at hd
    · exact h.elim
  | l, s' :: r', K, h, y, hd => by
    unfold sleL at h
    split at h
    · cases y with
      | nil => simp [DenL] at hd
      | cons v vs =>
        simp only [DenL] at hd ⊢
        obtain ⟨h1, h2⟩ := sle_spec m _ s' _ h v hd.1
        obtain ⟨h3, h4⟩ := sleL_spec m _ r' K h1 vs hd.2
        exact ⟨h3, h2, h4⟩
    · exact h.elim
end

theorem ckEqL_eq : ∀ {a b : List CK}, ckEqL a b = true → a = b
  | [], [], _ => rfl
  | a :: l, b :: r, h => by
    simp only [ckEqL] at h
    cases hc : ckEq a b with
    | false => simp [hc] at h
    | true =>
      simp only [hc] at h
      rw [ckEqL_eq h]
      cases a <;> cases b <;> simp [ckEq] at hc
      · rw [kEq_eq hc]
      · rfl
      · rfl
      · rfl
  | [], _ :: _, h => by simp [ckEqL] at h
  | _ :: _, [], h => by simp [ckEqL] at h
theorem bEq_eq {a b : Bool} (h : bEq a b = true) : a = b := by cases a <;> cases b <;> simp [bEq] at h <;> rfl

theorem ele_spec {ρ : Nat → Loc} {hp : List Ent} {M F : HL} {w : World} (H : Holds ρ hp M F w) {m : List Nat} {o j : Nat} {e' : Ent} {K : Prop} (h : ele m (Nat.ble (llen hp) o) (eget hp o) e' K) (hj : m[j]? = some o) :
    K ∧ EntOK (ren ρ m) M w j e' ∧ (∀ b base cap, e'.own = true → ren ρ m j = some (b, base, cap) → ∃ e, hp[o]? = some e ∧ e.own = true ∧ ρ o = some (b, base, cap)) := by
  have hr : ren ρ m j = ρ o := by simp [ren, hj]
  unfold ele at h
  split at h
  · exact ⟨h, trivial, fun _ _ _ h1 => by cases h1⟩
  · rename_i t' vs'
    split at h
    · rename_i t vs he
      have he := eget_ne he (by simp)
      split at h
      · rename_i ht
        have ht := Nat.eq_of_beq_eq_true ht
        subst ht
        obtain ⟨b, cap, cs, h1, h2, h3⟩ := H.ent o _ he
        obtain ⟨h4, h5⟩ := sleL_spec m _ _ _ h _ h3
        exact ⟨h4, ⟨b, cap, cs, hr.trans h1, h2, h5⟩, fun b' base' cap' _ h6 => ⟨_, he, rfl, hr ▸ h6⟩⟩
      · exact h.elim
    · exact h.elim
  · rename_i t' vs'
    split at h
    · rename_i t vs he
      have he := eget_ne he (by simp)
      split at h
      · rename_i ht
        have ht := Nat.eq_of_beq_eq_true ht
        subst ht
        obtain ⟨b, cap, cs, fr, h1, h2, h3⟩ := H.ent o _ he
        obtain ⟨h4, h5⟩ := sleL_spec m _ _ _ h _ h3
        exact ⟨h4, ⟨b, cap, cs, fr, hr.trans h1, h2, h5⟩, fun _ _ _ h6 => by cases h6⟩
      · exact h.elim
    · exact h.elim
  · rename_i o' t' ck' rows'
    split at h
    · rename_i hf
      rw [llen_eq] at hf
      have hf := Nat.le_of_ble_eq_true hf
      have hd := H.dom o hf
      split at h
      · exact h.elim
      · obtain ⟨rfl, h⟩ := h
        refine ⟨h, ?_, fun b base cap _ h6 => ?_⟩
        · simp only [EntOK, hr, hd]
          exact ⟨by simp, trivial⟩
        · rw [hr, hd] at h6; cases h6
    · split at h
      · rename_i own t ck rows he
        have he := eget_ne he (by simp)
        split at h
        · rename_i h3
          have h3 := ckEqL_eq h3
          subst h3
          obtain ⟨rfl, rfl, rfl, h⟩ := h
          have hE := H.ent o _ he
          refine ⟨h, ?_, fun b' base' cap' h5 h6 => ⟨_, he, h5, hr ▸ h6⟩⟩
          simp only [EntOK] at hE ⊢
          rw [hr]
          exact hE
        · exact h.elim
      · exact h.elim

theorem eleL_spec {ρ : Nat → Loc} {hp : List Ent} {M F : HL} {w : World} (H : Holds ρ hp M F w) {m : List Nat} : ∀ (ms : List Nat) (j : Nat) (hp' : List Ent) (K : Prop), (∀ i, ms[i]? = m[j + i]?) → eleL m hp ms hp' K →
    K ∧ hp'.length = ms.length ∧ ∀ i e', hp'[i]? = some e' → EntOK (ren ρ m) M w (j + i) e' ∧ (∀ b base cap, e'.own = true → ren ρ m (j + i) = some (b, base, cap) → ∃ o e, m[j + i]? = some o ∧ hp[o]? = some e ∧ e.own = true ∧ ρ o = some (b, base, cap))
  | [], j, [], K, hm, h => ⟨h, rfl, by simp⟩
  | o :: ms, j, e' :: r, K, hm, h => by
    simp only [eleL] at h
    have hj : m[j]? = some o := by have := hm 0; simpa using this.symm
    obtain ⟨h1, h2, h3⟩ := ele_spec H h hj
    obtain ⟨h4, h5, h6⟩ := eleL_spec H ms (j + 1) r K (fun i => by have := hm (i + 1); rw [show j + 1 + i = j + (i + 1) by omega]; simpa using this) h1
    refine ⟨h4, by simp [h5], fun i e hi => ?_⟩
    cases i with
    | zero =>
      simp at hi
      subst hi
      exact ⟨h2, fun b base cap hb1 hb2 => by obtain ⟨e, h7⟩ := h3 b base cap hb1 hb2; exact ⟨o, e, hj, h7⟩⟩
    | succ i =>
      have := h6 i e (by simpa using hi)
      rwa [show j + 1 + i = j + (i + 1) by omega] at this
  | [], j, _ :: _, K, hm, h => by simp [eleL] at h
  | _ :: _, j, [], K, hm, h => by simp [eleL] at h

theorem notin_spec {n x : Nat} : ∀ {l : List Nat}, notin n x l = true → x < n → x ∉ l
  | [], _, _ => by simp
  | y :: r, h, hx => by
    have hlt : Nat.blt x n = true := by simpa [Nat.blt_eq] using hx
    simp only [notin, hlt] at h
    split at h
    · cases h
    · rename_i hne
      have : Nat.beq x y = false := by
        cases hb : Nat.beq x y with
        | false => rfl
        | true => exact absurd rfl (hne hb)
      simp only [List.mem_cons, not_or]
      exact ⟨Nat.ne_of_beq_eq_false this, notin_spec h hx⟩
theorem nodupB_spec {n : Nat} : ∀ {l : List Nat}, nodupB n l = true → ∀ (i j x : Nat), l[i]? = some x → l[j]? = some x → x < n → i = j
  | [], _, i, j, x, hi, _, _ => by simp at hi
  | y :: r, h, i, j, x, hi, hj, hx => by
    simp only [nodupB] at h
    split at h
    case h_2 => cases h
    rename_i hn
    cases i with
    | zero => cases j with
      | zero => rfl
      | succ j =>
        simp at hi hj
        subst hi
        exact absurd (List.mem_of_getElem? hj) (notin_spec hn hx)
    | succ i => cases j with
      | zero =>
        simp at hi hj
        subst hj
        exact absurd (List.mem_of_getElem? hi) (notin_spec hn hx)
      | succ j => rw [nodupB_spec h i j x (by simpa using hi) (by simpa using hj) hx]
theorem idUpto_spec : ∀ {k j : Nat} {m : List Nat}, idUpto k j m = true → ∀ i, i < k → m[i]? = some (j + i)
  | 0, _, _, _, i, hi => by omega
  | k + 1, j, [], h, _, _ => by simp [idUpto] at h
  | k + 1, j, x :: r, h, i, hi => by
    simp only [idUpto] at h
    split at h
    case h_2 => cases h
    rename_i hx
    have hx := Nat.eq_of_beq_eq_true hx
    cases i with
    | zero => simp [hx]
    | succ i => 
      have := idUpto_spec h i (by omega)
      rw [show j + 1 + i = j + (i + 1) by omega] at this
      simpa using this

theorem Wk_spec {k0 : Nat} {m : List Nat} {tm tm' : List SV} {hp hp' : List Ent} {K : Prop} (h : Wk k0 m tm hp tm' hp' K) {ρ : Nat → Loc} {M F : HL} {w : World} (H : Holds ρ hp M F w) {ys : List Value} (hD : DenL ρ tm ys) :
    K ∧ ∃ ρ', Holds ρ' hp' M F w ∧ DenL ρ' tm' ys ∧ Ext k0 ρ ρ' ∧ k0 ≤ hp'.length := by
  unfold Wk at h
  split at h
  case h_2 => exact h.elim
  rename_i hnd hid
  rw [llen_eq] at hnd
  obtain ⟨h1, h2⟩ := sleL_spec m _ _ _ h _ hD
  obtain ⟨h3, h4, h5⟩ := eleL_spec H m 0 hp' K (fun i => by rw [Nat.zero_add]) h1
  have hid' := idUpto_spec hid
  have hown : ∀ n b, owns (ren ρ m) hp' n b → ∃ o, m[n]? = some o ∧ owns ρ hp o b := by
    rintro n b ⟨e, base, cap, ha, hb, hc⟩
    obtain ⟨_, h7⟩ := h5 n e ha
    rw [Nat.zero_add] at h7
    obtain ⟨o, e2, h8, h9, h10, h11⟩ := h7 b base cap hb hc
    exact ⟨o, h8, e2, base, cap, h9, h10, h11⟩
  refine ⟨h3, ren ρ m, ⟨fun n e hn => by have := (h5 n e hn).1; rwa [Nat.zero_add] at this, fun n k b hn hk => ?_, fun n b hn => ?_, H.frm, H.sub, fun n hn => ?_⟩, h2, fun n hn => ?_, ?_⟩
  · obtain ⟨o1, ho1, hw1⟩ := hown n b hn
    obtain ⟨o2, ho2, hw2⟩ := hown k b hk
    have := H.sep o1 o2 b hw1 hw2
    subst this
    obtain ⟨e, _, _, he, _⟩ := hw1
    exact nodupB_spec hnd n k o1 ho1 ho2 (List.getElem?_eq_some_iff.1 he).1
  · obtain ⟨o1, ho1, hw1⟩ := hown n b hn
    exact H.out o1 b hw1
  · simp [ren, List.getElem?_eq_none (show m.length ≤ n by omega)]
  · have := hid' n hn
    rw [Nat.zero_add] at this
    simp [ren, this]
  · rw [h4]
    rcases Nat.eq_zero_or_pos k0 with h0 | h0
    · omega
    · have := (List.getElem?_eq_some_iff.1 (hid' (k0 - 1) (by omega))).1
      omega
end Go.Vc
