/-
  Symbolic execution, part H: make, slice expressions.
-/
import Derived.Test.YthomcgclkbmnkaaDoorVcg
namespace Go.Vc

theorem fitsB_fits {k : CK} {x : Value} (h : k.fitsB x = true) : k.fits x := by
  cases k
  case sl =>
    have : x = .slice none 0 0 := by
      simp only [CK.fitsB] at h
      unfold isNil0 at h
      split at h
      · rfl
      · cases h
    subst this
    exact ⟨none, 0, 0, rfl, Nat.le_refl _, fun _ => rfl⟩
  all_goals cases x <;> simp [CK.fitsB] at h <;> simp [CK.fits, Value.oneCell', h]

theorem fitsAll_spec : ∀ {ck : List CK} {l : List Value}, fitsAll ck l = true → l.length = ck.length ∧ ∀ (f : Nat) (k : CK) (x : Value), ck[f]? = some k → l[f]? = some x → k.fits x
  | [], [], _ => ⟨rfl, by simp⟩
  | k :: r, x :: l, h => by
    simp only [fitsAll, Bool.and_eq_true] at h
    obtain ⟨h1, h2⟩ := fitsAll_spec h.2
    refine ⟨by simp [h1], fun f k' x' hk hx => ?_⟩
    cases f with
    | zero => simp at hk hx; subst hk; subst hx; exact fitsB_fits h.1
    | succ f => exact h2 f k' x' (by simpa using hk) (by simpa using hx)
  | [], _ :: _, h => by simp [fitsAll] at h
  | _ :: _, [], h => by simp [fitsAll] at h

section
variable {P : Program} {Γ : Nat → Option Trans} {tm : List SV} {hp : List Ent} {M F : HL} {K : SV → List Ent → HL → Prop} {ρ : Nat → Loc} {w : World} {a : Act}
variable (H : Holds ρ hp M F w) (hD : DenL ρ tm a.tmps.toList)
include H hD

theorem s_mslice {o : Oper} {t : TypeId} {x y : Operand} (ho : o.op = .makeSlice t x y) (h : vcOp Γ (cop P o) tm hp M K) : OpWp P o a w (Post K hp.length ρ M F w) := by
  simp only [cop, ho] at h
  split at h
  case h_2 => simp [vcOp] at h
  rename_i e hu
  split at h
  case h_2 => simp [vcOp] at h
  rename_i z hz
  split at h
  case isFalse => simp [vcOp] at h
  rename_i hside
  obtain ⟨hfa, hsz0⟩ := hside
  obtain ⟨hzl, hzf⟩ := fitsAll_spec hfa
  unfold zeroOf at hz
  obtain ⟨ti, hti, hz'⟩ := Option.bind_eq_some_iff.1 hz
  have hsz : szOf P e = ti.size := by simp [szOf, hti]
  have hby : byOf P e = ti.bytes := by simp [byOf, hti]
  simp only [vcOp, vMslice] at h
  split at h
  · exact h.elim
  rename_i c0 cr hck
  have h' := int_den h (ev_den hD x)
  clear h
  obtain ⟨kl, n, hn, h⟩ := h'
  have h' := int_den h (ev_den hD y)
  clear h
  obtain ⟨kc, m, hm, h0, h1, h2, h3, h⟩ := h'
  rw [hby] at h2
  have hrun := run_make (P := P) w t e ti z hu hti hz' kl kc n m h0 h1 h2 h3
  have hw : 0 < (cks P e).length := by rw [hck]; simp
  have hzs : z.cells.size = (cks P e).length := by simpa using hzl
  have hts : ti.size = (cks P e).length := by omega
  have key : ∀ sv, K sv (hp ++ [.row true e (cks P e) (List.replicate n.toNat z.cells.toList)]) M → Den (grow ρ hp.length (some (w.heap.size, 0, m.toNat))) sv (.slice (some ⟨w.heap.size, 0, none⟩) n.toNat m.toNat) → OpWp P o a w (Post K hp.length ρ M F w) := by
    intro sv h hden
    refine .of_value (v := .slice (some ⟨w.heap.size, 0, none⟩) n.toNat m.toNat) (w' := w.alloc (.cells (madeCells z.cells (m.toNat * ti.size)) e)) (by simp [execOp, ho, hn, hm, hrun])
      ⟨_, grow ρ hp.length (some (w.heap.size, 0, m.toNat)), _, M, F, h, by simp, grow_ext _ _ _, H.newRow (cap := m.toNat) rfl hw (by unfold maxLen; omega) (by rw [size_madeCells, hts]) (by simp; omega) ?_, Gr.refl M F, ⟨rfl, rfl, rfl, by simp⟩, hden⟩
    intro i r hr
    have hi : i < n.toNat := by have := (List.getElem?_eq_some_iff.1 hr).1; simpa using this
    rw [List.getElem?_replicate, if_pos hi] at hr
    cases hr
    refine ⟨by simpa using hzs, fun f k v hk hv => ⟨?_, hzf f k v hk hv⟩⟩
    have hf : f < (cks P e).length := (List.getElem?_eq_some_iff.1 hk).1
    have hmul : i * (cks P e).length + (cks P e).length ≤ m.toNat * (cks P e).length := by
      have : (i + 1) * (cks P e).length ≤ m.toNat * (cks P e).length := Nat.mul_le_mul_right _ (by omega)
      rwa [Nat.succ_mul] at this
    simp only [madeCells, hts, Nat.zero_add]
    rw [Array.getElem?_map, Array.getElem?_range, if_pos (by omega)]
    have hmod : (i * (cks P e).length + f) % z.cells.size = f := by
      rw [hzs, Nat.add_comm, Nat.add_mul_mod_self_right, Nat.mod_eq_of_lt hf]
    have hv' : z.cells[f]? = some v := by simpa using hv
    simp only [Option.map_some, hmod, Option.some.injEq]
    rw [getElem!_def, hv']
  cases h with
  | std h =>
    rw [epush_iff, lenK_eq, lenK_eq, llen_eq, llen_eq] at h
    exact key _ h ⟨_, m.toNat, rfl, by omega, .inr ⟨w.heap.size, 0, m.toNat, grow_self _ _ _, by simp, by omega⟩⟩
  | exact h =>
    rw [epush_iff, lenK_eq, lenK_eq, llen_eq, llen_eq] at h
    exact key _ h ⟨w.heap.size, 0, m.toNat, grow_self _ _ _, rfl, by omega, Nat.le_refl _⟩

theorem bound_den {x : Option Operand} {d : Nat} {K' : Int → Prop} (h : vBound tm (x.map carg) d K') : (∃ k i, x.map a.eval = some (.int k i) ∧ K' i) ∨ (x = none ∧ K' d) := by
  have _ := @H
  cases x with
  | none => exact .inr ⟨rfl, h⟩
  | some p =>
    simp only [Option.map_some, vBound] at h
    have hp := ev_den hD p
    split at h
    · rename_i k i he
      rw [he] at hp
      simp only [Den] at hp
      exact .inl ⟨k, i, by simp [← hp], h⟩
    · exact h.elim

theorem s_slice {o : Oper} {t e : TypeId} {x : Operand} {lo hi mx : Option Operand} (ho : o.op = .slice t x lo hi mx) (hu : P.underlying t = some (.slice e)) (hi' : (P.info? e).isSome = true)
    (h : vcOp Γ (.slice (szOf P e) (carg x) (lo.map carg) (hi.map carg) (mx.map carg)) tm hp M K) : POk P o a ρ fun v => K v hp M := by
  obtain ⟨ti, hti⟩ := Option.isSome_iff_exists.1 hi'
  have hsz : szOf P e = ti.size := by simp [szOf, hti]
  simp only [vcOp, vSlice] at h
  have hx := ev_den hD x
  -- the bounds of a slice expression without a third one
  have run2 : ∀ (w : World) (ad : Option Addr) (len cap : Nat) (l hh : Int), a.eval x = .slice ad len cap → mx = none → len ≤ cap →
      ((∃ k, lo.map a.eval = some (.int k l)) ∨ (lo = none ∧ l = 0)) → ((∃ k, hi.map a.eval = some (.int k hh)) ∨ (hi = none ∧ hh = len)) → 0 ≤ l → l ≤ hh → hh ≤ cap →
      (execOp a.eval o).run P w = .ok (.value (.slice (if cap = l.toNat then ad else ad.map (·.add (l.toNat * ti.size))) (hh.toNat - l.toNat) (cap - l.toNat))) w := by
    intro w ad len cap l hh he hm hlc hl hhh h0 h1 h2
    subst hm
    obtain ⟨l, rfl⟩ : ∃ n : Nat, l = n := ⟨l.toNat, by omega⟩
    obtain ⟨hh, rfl⟩ : ∃ n : Nat, hh = n := ⟨hh.toNat, by omega⟩
    have bd : ∀ (k : IntKind) (i y : Nat) (code : BoundsCode), i ≤ y → (Instr.sliceBound (.int k (i : Int)) y code).run P w = .ok i w := fun k i y code hiy => by
      rw [run_sliceBound w k i y code (by omega) (by omega)]; simp
    have h1 : l ≤ hh := by omega
    have h2 : hh ≤ cap := by omega
    rcases hl with ⟨k, hl⟩ | ⟨rfl, hl⟩ <;> rcases hhh with ⟨k', hh'⟩ | ⟨rfl, hh'⟩
    · simp only [execOp, ho, Instr.sliceAt, Sem.run_bind, run_underlying hu, Result.andThen_ok, Instr.slice, he, Instr.sliceBounds, hl, hh', Option.map_none, Sem.run_pure, bd _ _ _ _ h1, bd _ _ _ _ h2, sizeOf, typeInfo, run_program, hti, Int.toNat_natCast]
    · obtain rfl : hh = len := by omega
      simp only [execOp, ho, Instr.sliceAt, Sem.run_bind, run_underlying hu, Result.andThen_ok, Instr.slice, he, Instr.sliceBounds, hl, Option.map_none, Sem.run_pure, bd _ _ _ _ h1, sizeOf, typeInfo, run_program, hti, Int.toNat_natCast]
    · obtain rfl : l = 0 := by omega
      simp only [execOp, ho, Instr.sliceAt, Sem.run_bind, run_underlying hu, Result.andThen_ok, Instr.slice, he, Instr.sliceBounds, hh', Option.map_none, Sem.run_pure, bd _ _ _ _ h2, sizeOf, typeInfo, run_program, hti, Int.toNat_natCast]
    · obtain rfl : l = 0 := by omega
      obtain rfl : hh = len := by omega
      simp only [execOp, ho, Instr.sliceAt, Sem.run_bind, run_underlying hu, Result.andThen_ok, Instr.slice, he, Instr.sliceBounds, Option.map_none, Sem.run_pure, sizeOf, typeInfo, run_program, hti, Int.toNat_natCast]
  split at h
  · rename_i hmx
    have hmx : mx = none := by cases mx <;> simp [isO] at hmx ⊢
    split at h
    · rename_i hn
      obtain ⟨ad, hv⟩ := isNilS_den hn hx
      have hl := bound_den H hD h
      clear h
      have hl : ∃ l : Int, ((∃ k, lo.map a.eval = some (.int k l)) ∨ (lo = none ∧ l = 0)) ∧ vBound tm (hi.map carg) 0 fun h => 0 ≤ l ∧ l ≤ h ∧ h ≤ 0 ∧ K .emp hp M := by
        rcases hl with ⟨k, i, h1, h2⟩ | ⟨h1, h2⟩
        · exact ⟨i, .inl ⟨k, h1⟩, h2⟩
        · exact ⟨0, .inr ⟨h1, rfl⟩, by simpa using h2⟩
      obtain ⟨l, hl, h⟩ := hl
      have hh := bound_den H hD h
      clear h
      have hh : ∃ q : Int, ((∃ k, hi.map a.eval = some (.int k q)) ∨ (hi = none ∧ q = 0)) ∧ 0 ≤ l ∧ l ≤ q ∧ q ≤ 0 ∧ K .emp hp M := by
        rcases hh with ⟨k, i, h1, h2⟩ | ⟨h1, h2⟩
        · exact ⟨i, .inl ⟨k, h1⟩, h2⟩
        · exact ⟨0, .inr ⟨h1, rfl⟩, by simpa using h2⟩
      obtain ⟨q, hh, h0, h1, h2, h⟩ := hh
      obtain rfl : l = 0 := by omega
      obtain rfl : q = 0 := by omega
      have hr := fun w => run2 w ad 0 0 0 0 hv hmx (Nat.le_refl _) hl hh (by omega) (by omega) (by omega)
      exact .mk' (fun w => hr w) h ⟨ad, by simp⟩
    · split at h
      case h_3 => exact h.elim
      case h_2 =>
        rename_i y he
        rw [he] at hx
        simp only [Den] at hx
        obtain ⟨hv, ad, len, cp, rfl, hlc, hnn⟩ := hx
        have hl := bound_den H hD h
        clear h
        have hl : ∃ l : Int, ((∃ k, lo.map a.eval = some (.int k l)) ∨ (lo = none ∧ l = 0)) ∧ vBound tm (hi.map carg) len fun h => 0 ≤ l ∧ l ≤ h ∧ h ≤ (len : Int) ∧ K (.rsl (subY (.slice ad len cp) (szOf P e) l.toNat h.toNat)) hp M := by
          rcases hl with ⟨k, i, h1, h2⟩ | ⟨h1, h2⟩
          · exact ⟨i, .inl ⟨k, h1⟩, h2⟩
          · exact ⟨0, .inr ⟨h1, rfl⟩, h2⟩
        obtain ⟨l, hl, h⟩ := hl
        have hh := bound_den H hD h
        clear h
        have hh : ∃ q : Int, ((∃ k, hi.map a.eval = some (.int k q)) ∨ (hi = none ∧ q = len)) ∧ 0 ≤ l ∧ l ≤ q ∧ q ≤ (len : Int) ∧ K (.rsl (subY (.slice ad len cp) (szOf P e) l.toNat q.toNat)) hp M := by
          rcases hh with ⟨k, i, h1, h2⟩ | ⟨h1, h2⟩
          · exact ⟨i, .inl ⟨k, h1⟩, h2⟩
          · exact ⟨len, .inr ⟨h1, rfl⟩, h2⟩
        obtain ⟨q, hh, h0, h1, h2, h⟩ := hh
        have hr := fun w => run2 w ad len cp l q hv hmx hlc hl hh h0 h1 (by omega)
        refine .mk' (fun w => hr w) h ⟨by simp only [subY, hsz], _, _, _, rfl, by omega, fun hno => ?_⟩
        cases ad with
        | none => have := hnn rfl; omega
        | some ad => by_cases hc : cp = l.toNat <;> simp [hc] at hno
      rename_i n wd i len he
      rw [he] at hx
      simp only [Den] at hx
      obtain ⟨ad, cp, hv, hlc, hor⟩ := hx
      split at h
      case h_2 => exact h.elim
      rename_i hw
      have hw := Nat.eq_of_beq_eq_true hw
      have hl := bound_den H hD h
      clear h
      have hl : ∃ l : Int, ((∃ k, lo.map a.eval = some (.int k l)) ∨ (lo = none ∧ l = 0)) ∧ vBound tm (hi.map carg) len fun h => 0 ≤ l ∧ l ≤ h ∧ h ≤ (len : Int) ∧ K (.slc n (szOf P e) (i + l.toNat) (h.toNat - l.toNat)) hp M := by
        rcases hl with ⟨k, i, h1, h2⟩ | ⟨h1, h2⟩
        · exact ⟨i, .inl ⟨k, h1⟩, h2⟩
        · exact ⟨0, .inr ⟨h1, rfl⟩, by simpa using h2⟩
      obtain ⟨l, hl, h⟩ := hl
      have hh := bound_den H hD h
      clear h
      have hh : ∃ q : Int, ((∃ k, hi.map a.eval = some (.int k q)) ∨ (hi = none ∧ q = len)) ∧ 0 ≤ l ∧ l ≤ q ∧ q ≤ (len : Int) ∧ K (.slc n (szOf P e) (i + l.toNat) (q.toNat - l.toNat)) hp M := by
        rcases hh with ⟨k, i, h1, h2⟩ | ⟨h1, h2⟩
        · exact ⟨i, .inl ⟨k, h1⟩, h2⟩
        · exact ⟨len, .inr ⟨h1, rfl⟩, h2⟩
      obtain ⟨q, hh, h0, h1, h2, h⟩ := hh
      have hr := fun w => run2 w ad len cp l q hv hmx hlc hl hh h0 h1 (by omega)
      refine .mk' (fun w => hr w) h ⟨_, _, rfl, by omega, ?_⟩
      by_cases hcl : cp - l.toNat = 0
      · exact .inl hcl
      · rcases hor with hc0 | ⟨b, base, cap, hρ, hab, hcap⟩
        · omega
        · refine .inr ⟨b, base, cap, hρ, ?_, by omega⟩
          rw [if_neg (by omega), hab]
          simp only [Option.map_some, add_lit, Option.some.injEq, Addr.mk.injEq, true_and, and_true]
          rw [← hw, hsz, Nat.add_mul]
          omega
  · rename_i hmx
    split at h
    case h_2 => exact h.elim
    rename_i n wd i len he
    rw [he] at hx
    simp only [Den] at hx
    obtain ⟨ad, cp, hv, hlc, _⟩ := hx
    split at h
    case h_2 => exact h.elim
    rename_i hlo hhi hmx'
    have zero : ∀ y : Option Operand, isI0 (match y.map carg with | some p => ev tm p | none => .any) = true → ∃ k, y.map a.eval = some (.int k 0) := by
      intro y hy
      cases y with
      | none => simp [isI0] at hy
      | some p =>
        simp only [Option.map_some] at hy
        have hp := ev_den hD p
        unfold isI0 at hy
        split at hy
        · rename_i k hk
          rw [hk] at hp
          simp only [Den] at hp
          exact ⟨k, by simp [← hp]⟩
        · cases hy
    obtain ⟨k1, h1⟩ := zero hi hhi
    obtain ⟨k2, h2⟩ := zero mx hmx'
    have hlo : lo = none := by cases lo <;> simp [isO] at hlo ⊢
    subst hlo
    refine .mk' (v := .slice ad 0 0) (fun w => ?_) h ⟨ad, rfl⟩
    simp [execOp, ho, Instr.sliceAt, run_underlying hu, Instr.slice, hv, Instr.sliceBounds, h1, h2, run_sliceBound, sizeOf, typeInfo, hti]
end
end Go.Vc
