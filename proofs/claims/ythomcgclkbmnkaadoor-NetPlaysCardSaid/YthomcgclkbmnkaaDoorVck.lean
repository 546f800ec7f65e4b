/-
  Symbolic execution, part K: an operation, whatever it is; regions in the order of the text.
-/
import Derived.Test.YthomcgclkbmnkaaDoorVcj
namespace Go.Vc
section
variable {P : Program} {Γ : Nat → Option Trans} {tm : List SV} {hp : List Ent} {M F : HL} {K : SV → List Ent → HL → Prop} {ρ : Nat → Loc} {w : World} {a : Act}

/-- Looks at no memory. -/
def pureO : POp → Bool
  | .mov _ | .pick .. | .build .. | .nilck _ | .bin .. | .eqp .. | .eqb .. | .un .. | .conv .. | .iface .. | .clo .. | .slice .. | .fld .. | .part .. | .idx .. | .idxa .. | .ixv .. | .ext .. | .len _ | .cap _ | .minmax .. | .tassert .. => true
  | _ => false

theorem vcOp_both (hG : GOK P Γ) (H : Holds ρ hp M F w) (hD : DenL ρ tm a.tmps.toList) {o : Oper} (h : vcOp Γ (cop P o) tm hp M K) :
    (POk P o a ρ fun v => K v hp M) ∨ (pureO (cop P o) = false ∧ OpWp P o a w (Post K hp.length ρ M F w)) := by
  have h0 := h
  unfold cop at h
  split at h
  case h_1 x ho => exact .inl (s_mov H hD (.inl ho) h)
  case h_2 x ho => exact .inl (s_mov H hD (.inr ho) h)
  case h_3 c x y ho => exact .inl (s_pick H hD ho h)
  case h_4 e ho => exact .inr ⟨by simp only [cop, ho]; repeat' (first | rfl | split), s_alloc H hD ho h0⟩
  case h_5 e x ho => exact .inr ⟨by simp only [cop, ho]; repeat' (first | rfl | split), s_box H hD ho h⟩
  case h_6 t ps ho => exact .inl (s_build H hD ho h0)
  case h_7 t n ps ho => exact .inr ⟨by simp only [cop, ho]; repeat' (first | rfl | split), s_bslice H hD ho h0⟩
  case h_8 t x ho => exact .inr ⟨by simp only [cop, ho]; repeat' (first | rfl | split), s_load H hD ho h0⟩
  case h_9 t x y ho => exact .inr ⟨by simp only [cop, ho]; repeat' (first | rfl | split), s_store H hD ho h0⟩
  case h_10 x ho => exact .inl (s_nilck H hD ho h)
  case h_11 op t x y u ho =>
    split at h
    · split at h
      · exact .inl (s_bin H hD ho h)
      · exact .inl (s_eqb H hD ho (.inl rfl) h ‹_›)
      · exact .inl (s_eqp H hD ho (.inl rfl) h (.inl ⟨rfl, _, ‹_›⟩))
      · exact .inl (s_eqp H hD ho (.inl rfl) h (.inr (.inl ⟨rfl, _, ‹_›⟩)))
      · exact .inl (s_eqp H hD ho (.inl rfl) h (.inr (.inr (.inl ⟨rfl, _, _, _, ‹_›⟩))))
      · exact .inl (s_eqp H hD ho (.inl rfl) h (.inr (.inr (.inr ⟨rfl, _, ‹_›⟩))))
      · simp [vcOp] at h
    · split at h
      · exact .inl (s_bin H hD ho h)
      · exact .inl (s_eqb H hD ho (.inr rfl) h ‹_›)
      · exact .inl (s_eqp H hD ho (.inr rfl) h (.inl ⟨rfl, _, ‹_›⟩))
      · exact .inl (s_eqp H hD ho (.inr rfl) h (.inr (.inl ⟨rfl, _, ‹_›⟩)))
      · exact .inl (s_eqp H hD ho (.inr rfl) h (.inr (.inr (.inl ⟨rfl, _, _, _, ‹_›⟩))))
      · exact .inl (s_eqp H hD ho (.inr rfl) h (.inr (.inr (.inr ⟨rfl, _, ‹_›⟩))))
      · simp [vcOp] at h
    · exact .inl (s_bin H hD ho h)
  case h_12 op t x ho => exact .inl (s_un H hD ho h)
  case h_13 s d x ho => exact .inl (s_conv H hD ho h0)
  case h_14 t x ho =>
    split at h
    · exact .inl (s_iface H hD ho h ‹_›)
    · simp [vcOp] at h
  case h_15 f x y ho => exact .inl (s_clo H hD ho h)
  case h_16 => simp [vcOp] at h
  case h_17 t x y ho => exact .inr ⟨by simp only [cop, ho]; repeat' (first | rfl | split), s_mslice H hD ho h0⟩
  case h_18 t x lo hi mx ho =>
    split at h
    · split at h
      · exact .inl (s_slice H hD ho ‹_› ‹_› h)
      · simp [vcOp] at h
    · simp [vcOp] at h
  case h_19 t x f ho => exact .inl (s_fld H hD ho h0)
  case h_20 t x f ho => exact .inl (s_part H hD ho h0)
  case h_21 t x i ho =>
    split at h
    · split at h
      · exact .inl (s_idx H hD ho ‹_› ‹_› h)
      · simp [vcOp] at h
    · split at h
      · exact .inl (s_idxa H hD ho ‹_› ‹_› h)
      · simp [vcOp] at h
    · simp [vcOp] at h
  case h_22 x i ho => exact .inl (s_ext H hD ho h)
  case h_23 c ho =>
    split at h
    · rename_i hc1; exact .inr ⟨by simp only [cop, ho, hc1]; rfl, s_call H hD hG ho hc1 h⟩
    · rename_i hne hc1; exact .inr ⟨by simp only [cop, ho, hc1]; rfl, s_callv H hD hG ho hc1 h⟩
    · split at h
      · rename_i x t hx ht
        split at h
        · refine .inl (s_len H hD ho ‹_› ?_ ?_ ‹_› h)
          · apply Array.ext'; exact hx
          · apply Array.ext'; exact ht
        · simp [vcOp] at h
      · simp [vcOp] at h
    · split at h
      · rename_i x t hx ht
        split at h
        · refine .inl (s_cap H hD ho ‹_› ?_ ?_ ‹_› h)
          · apply Array.ext'; exact hx
          · apply Array.ext'; exact ht
        · simp [vcOp] at h
      · simp [vcOp] at h
    · rename_i hcal
      split at h
      · rename_i x y t u hx ht
        split at h
        · rename_i e e' hte hue
          split at h
          · rename_i z hz
            split at h
            · rename_i hside
              refine .inr ⟨?_, s_append H hD ho ‹_› ?_ ?_ hte ⟨_, hue⟩ hz hside.1 hside.2.1 hside.2.2 h⟩
              · simp only [cop, ho, hcal, hx, ht, hte, hue, hz]; split <;> rfl
              · apply Array.ext'; exact hx
              · apply Array.ext'; exact ht
            · simp [vcOp] at h
          · simp [vcOp] at h
        · rename_i e k hte hue
          split at h
          · rename_i z hz
            split at h
            · rename_i hside
              refine .inr ⟨?_, s_appendz H hD ho ‹_› ?_ ?_ hte ⟨_, hue⟩ hz hside.1 hside.2.1 hside.2.2 h⟩
              · simp only [cop, ho, hcal, hx, ht, hte, hue, hz]; split <;> rfl
              · apply Array.ext'; exact hx
              · apply Array.ext'; exact ht
            · simp [vcOp] at h
          · simp [vcOp] at h
        · simp [vcOp] at h
      · simp [vcOp] at h
    · split at h
      · split at h <;> simp [vcOp] at h
      · simp [vcOp] at h
    · exact .inl (s_minmax (mx := true) H hD ho (by simpa using ‹_›) h)
    · exact .inl (s_minmax (mx := false) H hD ho (by simpa using ‹_›) h)
    · rename_i hcal
      split at h
      · rename_i x t hx ht
        split at h
        · rename_i e hte
          split at h
          · rename_i z hz
            split at h
            · rename_i hside
              refine .inr ⟨?_, s_clr H hD ho ‹_› ?_ ?_ hte hz hside.1 hside.2 h⟩
              · simp only [cop, ho, hcal, hx, ht, hte, hz]; split <;> rfl
              · apply Array.ext'; exact hx
              · apply Array.ext'; exact ht
            · simp [vcOp] at h
          · simp [vcOp] at h
        · simp [vcOp] at h
      · simp [vcOp] at h
    · simp [vcOp] at h
    · simp [vcOp] at h
  case h_24 x t u ok ho =>
    split at h
    · split at h
      · exact .inl (s_tassert H hD ho ‹_› ‹_› h)
      · simp [vcOp] at h
    · simp [vcOp] at h
  case h_25 => split at h <;> (try split at h) <;> simp [vcOp] at h
  case h_26 => simp [vcOp] at h
  case h_27 t x i ho =>
    split at h
    · split at h
      · rename_i hs
        exact .inl (s_ixv H hD ho ‹_› hs.1 hs.2.1 hs.2.2.1 hs.2.2.2 h)
      · simp [vcOp] at h
    · simp [vcOp] at h
  case h_28 => simp [vcOp] at h

theorem vcPure_sound (hG : GOK P Γ) (H : Holds ρ hp M F w) (hD : DenL ρ tm a.tmps.toList) {o : Oper} (hp0 : pureO (cop P o) = true) (h : vcOp Γ (cop P o) tm hp M K) : POk P o a ρ fun v => K v hp M := by
  rcases vcOp_both hG H hD h with h | ⟨h1, _⟩
  · exact h
  · rw [hp0] at h1; cases h1
theorem vcOp_sound (hG : GOK P Γ) (H : Holds ρ hp M F w) (hD : DenL ρ tm a.tmps.toList) {o : Oper} (h : vcOp Γ (cop P o) tm hp M K) : OpWp P o a w (Post K hp.length ρ M F w) := by
  rcases vcOp_both hG H hD h with h | ⟨_, h⟩
  · exact h.op H
  · exact h
end
end Go.Vc
