/-
  Symbolic execution, part R: a contract on a small heap, used in a great one.
-/
import Derived.Test.YtkfkoldaeplckaaDoorVco
set_option linter.unusedSimpArgs false
set_option linter.unusedVariables false

namespace Go.Vc

/-! ### Names down: what a call reaches -/
def ixOf (n : Nat) : List Nat → Nat → Option Nat
  | [], _ => none
  | x :: r, j => match Nat.beq x n with
    | true => some j
    | false => ixOf n r (j + 1)
mutual
def dnS (m : List Nat) : SV → (SV → Prop) → Prop
  | .ptr n w i f, K => match ixOf n m 0 with | some j => K (.ptr j w i f) | none => False
  | .slc n w i len, K => match ixOf n m 0 with | some j => K (.slc j w i len) | none => False
  | .slx n w len c, K => match ixOf n m 0 with | some j => K (.slx j w len c) | none => False
  | .agg l, K => dnL m l fun l' => K (.agg l')
  | .tup l, K => dnL m l fun l' => K (.tup l')
  | .fn f a b, K => dnL m a fun a' => dnL m b fun b' => K (.fn f a' b')
  | .ifc t x, K => dnS m x fun x' => K (.ifc t x')
  | .rsl y, K => K (.rsl y)
  | .rpt y w i f, K => K (.rpt y w i f)
  | .via n x, K => match ixOf n m 0 with | some j => K (.via j x) | none => False
  | .v x, K => K (.v x)
  | .emp, K => K .emp
  | .any, K => K .any
def dnL (m : List Nat) : List SV → (List SV → Prop) → Prop
  | [], K => K []
  | s :: r, K => dnS m s fun s' => dnL m r fun r' => K (s' :: r')
end
def dnE (m : List Nat) (e : Ent) (K : Ent → Prop) : Prop :=
  match e with
  | .gone => K .gone
  | .cells t vs => dnL m vs fun vs' => K (.cells t vs')
  | .rcells t vs => dnL m vs fun vs' => K (.rcells t vs')
  | .row o t ck rows => K (.row o t ck rows)
  | .sub o N => K (.sub o N)
def dnH (m : List Nat) (hp : List Ent) : List Nat → (List Ent → Prop) → Prop
  | [], K => K []
  | n :: r, K => dnE m (eget hp n) fun e => dnH m hp r fun l => K (e :: l)

theorem ixOf_spec {n : Nat} : ∀ {m : List Nat} {j i : Nat}, ixOf n m j = some i → j ≤ i ∧ m[i - j]? = some n
  | [], j, i, h => by simp [ixOf] at h
  | x :: r, j, i, h => by
    unfold ixOf at h
    split at h
    · rename_i hx
      have hx := Nat.eq_of_beq_eq_true hx
      cases h
      exact ⟨Nat.le_refl _, by simp [hx]⟩
    · obtain ⟨h1, h2⟩ := ixOf_spec h
      refine ⟨by omega, ?_⟩
      rw [show i - j = (i - (j + 1)) + 1 by omega]
      simpa using h2
theorem ren_ix {ρ : Nat → Loc} {n j : Nat} {m : List Nat} (h : ixOf n m 0 = some j) : ren ρ m j = ρ n := by
  have := (ixOf_spec h).2
  simp only [Nat.sub_zero] at this
  simp [ren, this]

mutual
theorem dnS_spec {ρ : Nat → Loc} (m : List Nat) : ∀ (s : SV) (K : SV → Prop), dnS m s K → ∃ s', K s' ∧ ∀ y, Den ρ s y → Den (ren ρ m) s' y
  | .ptr n w i f, K, h => by
    unfold dnS at h
    split at h
    · rename_i j hj
      refine ⟨_, h, fun y hd => ?_⟩
      simp only [Den] at hd ⊢
      obtain ⟨b, base, cap, h1, h2⟩ := hd
      exact ⟨b, base, cap, (ren_ix hj).trans h1, h2⟩
    · exact h.elim
  | .slc n w i len, K, h => by
    unfold dnS at h
    split at h
    · rename_i j hj
      refine ⟨_, h, fun y hd => ?_⟩
      simp only [Den] at hd ⊢
      obtain ⟨a, c, h1, h2, h3⟩ := hd
      refine ⟨a, c, h1, h2, h3.imp id fun ⟨b, base, cap, h4, h5⟩ => ⟨b, base, cap, (ren_ix hj).trans h4, h5⟩⟩
    · exact h.elim
  | .slx n w len c, K, h => by
    unfold dnS at h
    split at h
    · rename_i j hj
      refine ⟨_, h, fun y hd => ?_⟩
      simp only [Den] at hd ⊢
      obtain ⟨b, base, cap, h1, h2⟩ := hd
      exact ⟨b, base, cap, (ren_ix hj).trans h1, h2⟩
    · exact h.elim
  | .agg l, K, h => by
    unfold dnS at h
    obtain ⟨l', h1, h2⟩ := dnL_spec (ρ := ρ) m l _ h
    refine ⟨_, h1, fun y hd => ?_⟩
    simp only [Den] at hd ⊢
    obtain ⟨cs, h3, h4⟩ := hd
    exact ⟨cs, h3, h2 _ h4⟩
  | .tup l, K, h => by
    unfold dnS at h
    obtain ⟨l', h1, h2⟩ := dnL_spec (ρ := ρ) m l _ h
    refine ⟨_, h1, fun y hd => ?_⟩
    simp only [Den] at hd ⊢
    obtain ⟨cs, h3, h4⟩ := hd
    exact ⟨cs, h3, h2 _ h4⟩
  | .fn f a b, K, h => by
    unfold dnS at h
    obtain ⟨a', h1, h2⟩ := dnL_spec (ρ := ρ) m a _ h
    obtain ⟨b', h3, h4⟩ := dnL_spec (ρ := ρ) m b _ h1
    refine ⟨_, h3, fun y hd => ?_⟩
    simp only [Den] at hd ⊢
    obtain ⟨x, z, h5, h6, h7⟩ := hd
    exact ⟨x, z, h5, h2 _ h6, h4 _ h7⟩
  | .ifc t x, K, h => by
    unfold dnS at h
    obtain ⟨x', h1, h2⟩ := dnS_spec (ρ := ρ) m x _ h
    refine ⟨_, h1, fun y hd => ?_⟩
    simp only [Den] at hd ⊢
    obtain ⟨z, h3, h4⟩ := hd
    exact ⟨z, h3, h2 _ h4⟩
  | .v x, K, h => ⟨.v x, by unfold dnS at h; exact h, fun y hd => by simpa [Den] using hd⟩
  | .via n x, K, h => by
    unfold dnS at h
    split at h
    · exact ⟨_, h, fun y hd => by simpa [Den] using hd⟩
    · exact h.elim
  | .rsl z, K, h => ⟨.rsl z, by unfold dnS at h; exact h, fun y hd => by simpa [Den] using hd⟩
  | .rpt z w i f, K, h => ⟨.rpt z w i f, by unfold dnS at h; exact h, fun y hd => by simpa [Den] using hd⟩
  | .emp, K, h => ⟨.emp, by unfold dnS at h; exact h, fun y hd => by simpa [Den] using hd⟩
  | .any, K, h => ⟨_, by unfold dnS at h; exact h, fun y hd => by simp [Den]⟩
theorem dnL_spec {ρ : Nat → Loc} (m : List Nat) : ∀ (s : List SV) (K : List SV → Prop), dnL m s K → ∃ s', K s' ∧ ∀ y, DenL ρ s y → DenL (ren ρ m) s' y
  | [], K, h => ⟨[], by unfold dnL at h; exact h, fun y hd => by cases y <;> simp [DenL] at hd ⊢⟩
  | s :: r, K, h => by
    unfold dnL at h
    obtain ⟨s', h1, h2⟩ := dnS_spec (ρ := ρ) m s _ h
    obtain ⟨r', h3, h4⟩ := dnL_spec (ρ := ρ) m r _ h1
    refine ⟨_, h3, fun y hd => ?_⟩
    cases y with
    | nil => simp [DenL] at hd
    | cons v vs => simp only [DenL] at hd ⊢; exact ⟨h2 _ hd.1, h4 _ hd.2⟩
end

/-! ### Names up -/
/-- 'n': how many names there are above, 'k': below. -/
def upN (m : List Nat) (n k j : Nat) : Nat := match Nat.blt j k with
  | true => nget m j
  | false => n + (j - k)
mutual
def upS (u : Nat → Nat) : SV → SV
  | .ptr n w i f => .ptr (u n) w i f
  | .slc n w i len => .slc (u n) w i len
  | .slx n w len c => .slx (u n) w len c
  | .agg l => .agg (upL u l)
  | .tup l => .tup (upL u l)
  | .fn f a b => .fn f (upL u a) (upL u b)
  | .ifc t x => .ifc t (upS u x)
  | .rsl y => .rsl y
  | .rpt y w i f => .rpt y w i f
  | .via n x => .via (u n) x
  | .v x => .v x
  | .emp => .emp
  | .any => .any
def upL (u : Nat → Nat) : List SV → List SV
  | [] => []
  | s :: r => upS u s :: upL u r
end
def upE (u : Nat → Nat) : Ent → Ent
  | .gone => .gone
  | .cells t vs => .cells t (upL u vs)
  | .rcells t vs => .rcells t (upL u vs)
  | .row o t ck rows => .row o t ck rows
  | .sub o N => .sub o N
def UpOK (u : Nat → Nat) (ρ ρ' : Nat → Loc) : Prop := ∀ j x, ρ j = some x → ρ' (u j) = some x
mutual
theorem upS_spec {u : Nat → Nat} {ρ ρ' : Nat → Loc} (h : UpOK u ρ ρ') : ∀ (s : SV) (y : Value), Den ρ s y → Den ρ' (upS u s) y
  | .ptr n w i f, y, hd => by
    simp only [upS, Den] at hd ⊢
    obtain ⟨b, base, cap, h1, h2⟩ := hd
    exact ⟨b, base, cap, h _ _ h1, h2⟩
  | .slc n w i len, y, hd => by
    simp only [upS, Den] at hd ⊢
    obtain ⟨a, c, h1, h2, h3⟩ := hd
    exact ⟨a, c, h1, h2, h3.imp id fun ⟨b, base, cap, h4, h5⟩ => ⟨b, base, cap, h _ _ h4, h5⟩⟩
  | .slx n w len c, y, hd => by
    simp only [upS, Den] at hd ⊢
    obtain ⟨b, base, cap, h1, h2⟩ := hd
    exact ⟨b, base, cap, h _ _ h1, h2⟩
  | .agg l, y, hd => by
    simp only [upS, Den] at hd ⊢
    obtain ⟨cs, h1, h2⟩ := hd
    exact ⟨cs, h1, upL_spec h l _ h2⟩
  | .tup l, y, hd => by
    simp only [upS, Den] at hd ⊢
    obtain ⟨cs, h1, h2⟩ := hd
    exact ⟨cs, h1, upL_spec h l _ h2⟩
  | .fn f a b, y, hd => by
    simp only [upS, Den] at hd ⊢
    obtain ⟨x, z, h1, h2, h3⟩ := hd
    exact ⟨x, z, h1, upL_spec h a _ h2, upL_spec h b _ h3⟩
  | .ifc t x, y, hd => by
    simp only [upS, Den] at hd ⊢
    obtain ⟨z, h1, h2⟩ := hd
    exact ⟨z, h1, upS_spec h x _ h2⟩
  | .v x, y, hd => hd
  | .via _ _, y, hd => hd
  | .rsl _, y, hd => hd
  | .rpt .., y, hd => hd
  | .emp, y, hd => hd
  | .any, y, hd => by simp [upS, Den]
theorem upL_spec {u : Nat → Nat} {ρ ρ' : Nat → Loc} (h : UpOK u ρ ρ') : ∀ (s : List SV) (y : List Value), DenL ρ s y → DenL ρ' (upL u s) y
  | [], [], _ => by simp [upL, DenL]
  | s :: r, v :: vs, hd => by simp only [upL, DenL] at hd ⊢; exact ⟨upS_spec h s v hd.1, upL_spec h r vs hd.2⟩
  | [], _ :: _, hd => by simp [DenL] at hd
  | _ :: _, [], hd => by simp [DenL] at hd
end
theorem upE_spec {u : Nat → Nat} {ρ ρ' : Nat → Loc} {M : HL} {w : World} (h : UpOK u ρ ρ') {n : Nat} (hn : ρ' (u n) = ρ n) {e : Ent} (hE : EntOK ρ M w n e) : EntOK ρ' M w (u n) (upE u e) := by
  cases e with
  | gone => trivial
  | cells t vs =>
    obtain ⟨b, cap, cs, h1, h2, h3⟩ := hE
    exact ⟨b, cap, cs, hn.trans h1, h2, upL_spec h _ _ h3⟩
  | rcells t vs =>
    obtain ⟨b, cap, cs, fr, h1, h2, h3⟩ := hE
    exact ⟨b, cap, cs, fr, hn.trans h1, h2, upL_spec h _ _ h3⟩
  | sub o N => exact hE
  | row o t ck rows =>
    simp only [upE, EntOK] at hE ⊢
    rw [hn]
    exact hE
theorem upE_own {u : Nat → Nat} (e : Ent) : (upE u e).own = e.own := by cases e <;> rfl

theorem upE_lies {u : Nat → Nat} {l : Loc} {b ba ca : Nat} (e : Ent) (h : Lies l (upE u e) b ba ca) : Lies l e b ba ca := by cases e <;> exact h

/-- A small number, as a numeral. -/
def numG (n : Nat) (K : Nat → Prop) : List Nat → Prop
  | [] => K n
  | l :: r => match Nat.beq n l with
    | true => K l
    | false => numG n K r
def numK (n : Nat) (K : Nat → Prop) : Prop := numG n K lits
theorem numG_eq (n : Nat) (K : Nat → Prop) : ∀ l, numG n K l = K n
  | [] => rfl
  | l :: r => by
    unfold numG
    cases h : Nat.beq n l with
    | true => simp [Nat.eq_of_beq_eq_true h]
    | false => simp [numG_eq n K r]
theorem numK_eq (n : Nat) (K : Nat → Prop) : numK n K = K n := numG_eq n K lits
mutual
def upSK (u : Nat → Nat) : SV → (SV → Prop) → Prop
  | .ptr n w i f, K => numK (u n) fun n => K (.ptr n w i f)
  | .slc n w i len, K => numK (u n) fun n => K (.slc n w i len)
  | .slx n w len c, K => numK (u n) fun n => K (.slx n w len c)
  | .agg l, K => upLK u l fun l => K (.agg l)
  | .tup l, K => upLK u l fun l => K (.tup l)
  | .fn f a b, K => upLK u a fun a => upLK u b fun b => K (.fn f a b)
  | .ifc t x, K => upSK u x fun x => K (.ifc t x)
  | .rsl y, K => K (.rsl y)
  | .rpt y w i f, K => K (.rpt y w i f)
  | .via n x, K => numK (u n) fun n => K (.via n x)
  | .v x, K => K (.v x)
  | .emp, K => K .emp
  | .any, K => K .any
def upLK (u : Nat → Nat) : List SV → (List SV → Prop) → Prop
  | [], K => K []
  | s :: r, K => upSK u s fun s => upLK u r fun r => K (s :: r)
end
def upEK (u : Nat → Nat) (e : Ent) (K : Ent → Prop) : Prop :=
  match e with
  | .gone => K .gone
  | .cells t vs => upLK u vs fun vs => K (.cells t vs)
  | .rcells t vs => upLK u vs fun vs => K (.rcells t vs)
  | .row o t ck rows => K (.row o t ck rows)
  | .sub o N => K (.sub o N)
mutual
theorem upSK_eq (u : Nat → Nat) : ∀ (s : SV) (K : SV → Prop), upSK u s K = K (upS u s)
  | .ptr .., _ | .slc .., _ | .slx .., _ | .v _, _ | .emp, _ | .any, _ | .rsl _, _ | .rpt .., _ | .via .., _ => by simp [upSK, upS, numK_eq]
  | .agg l, K | .tup l, K => by simp [upSK, upS, upLK_eq u l]
  | .fn f a b, K => by simp [upSK, upS, upLK_eq u a, upLK_eq u b]
  | .ifc t x, K => by simp [upSK, upS, upSK_eq u x]
theorem upLK_eq (u : Nat → Nat) : ∀ (s : List SV) (K : List SV → Prop), upLK u s K = K (upL u s)
  | [], _ => by simp [upLK, upL]
  | s :: r, K => by simp [upLK, upL, upSK_eq u s, upLK_eq u r]
end
theorem upEK_eq (u : Nat → Nat) (e : Ent) (K : Ent → Prop) : upEK u e K = K (upE u e) := by cases e <;> simp [upEK, upE, upLK_eq]
def upHK (u : Nat → Nat) : List Ent → (List Ent → Prop) → Prop
  | [], K => K []
  | e :: r, K => upEK u e fun e => upHK u r fun r => K (e :: r)
theorem upHK_eq (u : Nat → Nat) : ∀ (l : List Ent) (K : List Ent → Prop), upHK u l K = K (l.map (upE u))
  | [], _ => rfl
  | e :: r, K => by simp [upHK, upEK_eq, upHK_eq u r]

/-- What the small heap has become is laid back. -/
def layC (u : Nat → Nat) : List Nat → List Ent → List Ent → (List Ent → Prop) → Prop
  | n :: m, e :: r, hp, K => upEK u e fun e => eset e hp n fun hp' => layC u m r hp' K
  | [], r, hp, K => upHK u r fun r => eapp hp r K
  | _ :: _, [], _, _ => False
def layL (u : Nat → Nat) : List Nat → List Ent → List Ent → List Ent
  | n :: m, e :: r, hp => layL u m r (hp.set n (upE u e))
  | _, r, hp => hp ++ r.map (upE u)
theorem layC_iff (u : Nat → Nat) : ∀ (m : List Nat) (r hp : List Ent) (K : List Ent → Prop), layC u m r hp K ↔ (m.length ≤ r.length ∧ K (layL u m r hp))
  | n :: m, e :: r, hp, K => by simp [layC, layL, upEK_eq, eset_iff, layC_iff u m r]
  | [], r, hp, K => by simp [layC, layL, upHK_eq, eapp_eq]
  | _ :: _, [], _, _ => by simp [layC]

theorem layL_get {u : Nat → Nat} : ∀ {m : List Nat} {r hp : List Ent}, m.Nodup → (∀ n ∈ m, n < hp.length) → m.length ≤ r.length → ∀ n : Nat,
    (∀ i : Nat, m[i]? = some n → (layL u m r hp)[n]? = (r[i]?).map (upE u)) ∧ (n ∉ m → n < hp.length → (layL u m r hp)[n]? = hp[n]?) ∧ (hp.length ≤ n → (layL u m r hp)[n]? = (r[m.length + (n - hp.length)]?).map (upE u))
  | [], r, hp, _, _, _, n => by
    refine ⟨fun i h => by simp at h, fun _ h => ?_, fun h => ?_⟩
    · simp only [layL]; rw [List.getElem?_append_left h]
    · simp only [layL]; rw [List.getElem?_append_right h, List.getElem?_map]; simp
  | x :: m, e :: r, hp, hn, hlt, hl, n => by
    have hn' := List.nodup_cons.1 hn
    have hlt' : ∀ k ∈ m, k < (hp.set x (upE u e)).length := fun k hk => by simpa using hlt k (by simp [hk])
    obtain ⟨h1, h2, h3⟩ := layL_get (u := u) (m := m) (r := r) (hp := hp.set x (upE u e)) hn'.2 hlt' (by simpa using hl) n
    simp only [List.length_set] at h2 h3
    have hx : x < hp.length := hlt x (by simp)
    refine ⟨fun i hi => ?_, fun hnm hnl => ?_, fun hge => ?_⟩
    · cases i with
      | zero =>
        simp at hi
        subst hi
        simp only [layL]
        rw [h2 hn'.1 hx, List.getElem?_set_self hx]
        rfl
      | succ i => simp only [layL]; rw [h1 i (by simpa using hi)]; simp
    · simp only [List.mem_cons, not_or] at hnm
      simp only [layL]
      rw [h2 hnm.2 hnl, List.getElem?_set_ne (fun h => hnm.1 h.symm)]
    · simp only [layL]
      rw [h3 hge, List.length_cons, show m.length + 1 + (n - hp.length) = (m.length + (n - hp.length)) + 1 by omega]
      simp
  | _ :: _, [], _, _, _, hl, _ => by simp at hl
theorem layL_len {u : Nat → Nat} : ∀ {m : List Nat} {r hp : List Ent}, m.length ≤ r.length → (layL u m r hp).length = hp.length + (r.length - m.length)
  | [], r, hp, _ => by simp [layL]
  | x :: m, e :: r, hp, hl => by simp only [layL]; rw [layL_len (by simpa using hl)]; simp
  | _ :: _, [], _, hl => by simp at hl

/-- Entries that own alike. -/
def Alike (e0 e : Ent) : Prop := e0.own = e.own ∧ ∀ l b ba ca, Lies l e0 b ba ca → Lies l e b ba ca
theorem dnE_spec {ρ : Nat → Loc} {M : HL} {w : World} {m : List Nat} {e : Ent} {K : Ent → Prop} (h : dnE m e K) : ∃ e0, K e0 ∧ Alike e0 e ∧ ∀ n i, ren ρ m i = ρ n → EntOK ρ M w n e → EntOK (ren ρ m) M w i e0 := by
  unfold dnE at h
  split at h
  · exact ⟨_, h, ⟨rfl, fun _ _ _ _ h => h⟩, fun _ _ _ _ => trivial⟩
  · obtain ⟨vs', h1, h2⟩ := dnL_spec (ρ := ρ) m _ _ h
    refine ⟨_, h1, ⟨rfl, fun _ _ _ _ h => h⟩, fun n i hr hE => ?_⟩
    obtain ⟨b, cap, cs, h3, h4, h5⟩ := hE
    exact ⟨b, cap, cs, hr.trans h3, h4, h2 _ h5⟩
  · obtain ⟨vs', h1, h2⟩ := dnL_spec (ρ := ρ) m _ _ h
    refine ⟨_, h1, ⟨rfl, fun _ _ _ _ h => h⟩, fun n i hr hE => ?_⟩
    obtain ⟨b, cap, cs, fr, h3, h4, h5⟩ := hE
    exact ⟨b, cap, cs, fr, hr.trans h3, h4, h2 _ h5⟩
  · refine ⟨_, h, ⟨rfl, fun _ _ _ _ h => h⟩, fun n i hr hE => ?_⟩
    simp only [EntOK] at hE ⊢
    rw [hr]
    exact hE
  · exact ⟨_, h, ⟨rfl, fun _ _ _ _ h => h⟩, fun n i hr hE => hE⟩
theorem dnH_spec {ρ : Nat → Loc} {M : HL} {w : World} {m : List Nat} {hp : List Ent} : ∀ {l : List Nat} {K : List Ent → Prop}, dnH m hp l K →
    ∃ hp0, K hp0 ∧ hp0.length = l.length ∧ ∀ (j n : Nat) (e0 : Ent), l[j]? = some n → hp0[j]? = some e0 → Alike e0 (eget hp n) ∧ ∀ i, ren ρ m i = ρ n → EntOK ρ M w n (eget hp n) → EntOK (ren ρ m) M w i e0
  | [], K, h => ⟨[], h, rfl, fun j n e0 h => by simp at h⟩
  | x :: r, K, h => by
    unfold dnH at h
    obtain ⟨e, h1, h2, h3⟩ := dnE_spec (ρ := ρ) (M := M) (w := w) h
    obtain ⟨l, h4, h5, h6⟩ := dnH_spec (ρ := ρ) (M := M) (w := w) h1
    refine ⟨_, h4, by simp [h5], fun j n e0 hj he => ?_⟩
    cases j with
    | zero => simp at hj he; subst hj; subst he; exact ⟨h2, fun i => h3 x i⟩
    | succ j => exact h6 j n e0 (by simpa using hj) (by simpa using he)

/-- The frame of the small heap: all that none of its names owns. -/
noncomputable def restL (ρ : Nat → Loc) (hp : List Ent) (m : List Nat) (w : World) : HL := fun b =>
  open Classical in if ∃ n ∈ m, owns ρ hp n b then none else w.heap[b]?

theorem restL_some {ρ : Nat → Loc} {hp : List Ent} {m : List Nat} {w : World} {b : Nat} {o : Obj} (h : w.heap[b]? = some o) (hn : ∀ n ∈ m, ¬ owns ρ hp n b) : restL ρ hp m w b = some o := by
  unfold restL
  rw [if_neg (fun ⟨n, h1, h2⟩ => hn n h1 h2)]
  exact h

theorem Holds.down {ρ : Nat → Loc} {hp : List Ent} {M F : HL} {w : World} (H : Holds ρ hp M F w) {m : List Nat} (hm : m.Nodup) (hlt : ∀ n ∈ m, n < hp.length) {hp0 : List Ent} (hl : hp0.length = m.length)
    (hE : ∀ (j n : Nat) (e0 : Ent), m[j]? = some n → hp0[j]? = some e0 → Alike e0 (eget hp n) ∧ ∀ i, ren ρ m i = ρ n → EntOK ρ M w n (eget hp n) → EntOK (ren ρ m) M w i e0) :
    Holds (ren ρ m) hp0 M (restL ρ hp m w) w := by
  have hget : ∀ n, n < hp.length → hp[n]? = some (eget hp n) := fun n hn => by
    have key : ∀ (l : List Ent) (n : Nat), n < l.length → l[n]? = some (eget l n) := by
      intro l
      induction l with
      | nil => intro n h; simp at h
      | cons a r ih => intro n h; cases n with
        | zero => rfl
        | succ n => simpa [eget] using ih n (by simpa using h)
    exact key hp n hn
  have hown : ∀ j b, owns (ren ρ m) hp0 j b → ∃ n, m[j]? = some n ∧ owns ρ hp n b := by
    rintro j b ⟨e, ba, ca, h1, h2, h3⟩
    have hj : j < m.length := by rw [← hl]; exact (List.getElem?_eq_some_iff.1 h1).1
    have hjn : m[j]? = some m[j] := List.getElem?_eq_getElem hj
    refine ⟨m[j], hjn, eget hp m[j], ba, ca, hget _ (hlt _ (List.getElem_mem hj)), ?_, ?_⟩
    · rw [← (hE j _ e hjn h1).1.1]; exact h2
    · have := (hE j _ e hjn h1).1.2 _ _ _ _ h3
      rwa [show ren ρ m j = ρ m[j] by simp [ren, hjn]] at this
  refine ⟨fun j e0 h0 => ?_, fun j k b h1 h2 => ?_, fun j b h => ?_, fun b o h => ?_, fun b o h => ?_, fun j hj => ?_⟩
  · have hj : j < m.length := by rw [← hl]; exact (List.getElem?_eq_some_iff.1 h0).1
    have hjn : m[j]? = some m[j] := List.getElem?_eq_getElem hj
    exact (hE j _ e0 hjn h0).2 j (by simp [ren, hjn]) (H.ent _ _ (hget _ (hlt _ (List.getElem_mem hj))))
  · obtain ⟨n, h3, h4⟩ := hown j b h1
    obtain ⟨n', h5, h6⟩ := hown k b h2
    have := H.sep n n' b h4 h6
    subst this
    have hj := (List.getElem?_eq_some_iff.1 h3)
    have hk := (List.getElem?_eq_some_iff.1 h5)
    exact (List.getElem_inj hm).1 (hj.2.trans hk.2.symm)
  · obtain ⟨n, h3, h4⟩ := hown j b h
    unfold restL
    rw [if_pos ⟨n, List.mem_of_getElem? h3, h4⟩]
  · unfold restL at h
    split at h
    · cases h
    · exact h
  · refine restL_some (H.frm _ _ (H.sub _ _ h)) fun n _ hn => ?_
    have := H.out n b hn
    rw [H.sub _ _ h] at this
    cases this
  · simp [ren, List.getElem?_eq_none (show m.length ≤ j by omega)]

/-- Where the names lie when all is laid back. -/
def joinL (ρ ρ1 : Nat → Loc) (n k : Nat) : Nat → Loc := fun j => if j < n then ρ j else ρ1 (k + (j - n))

theorem Holds.up {ρ ρ1 : Nat → Loc} {hp hp1 : List Ent} {M F F1 : HL} {w w' : World} (H : Holds ρ hp M F w) {m : List Nat} (hm : m.Nodup) (hlt : ∀ n ∈ m, n < hp.length) (hk : m.length ≤ hp1.length) (hx : Ext m.length (ren ρ m) ρ1)
    {M1 : HL} (H1 : Holds ρ1 hp1 M1 F1 w') (hG : Gr M (restL ρ hp m w) M1 F1) :
    ∃ F', Gr M F M1 F' ∧ Holds (joinL ρ ρ1 hp.length m.length) (layL (upN m hp.length m.length) m hp1 hp) M1 F' w' ∧ UpOK (upN m hp.length m.length) ρ1 (joinL ρ ρ1 hp.length m.length) ∧ Ext hp.length ρ (joinL ρ ρ1 hp.length m.length) := by
  have hF := hG.fr
  have hu1 : ∀ j n, m[j]? = some n → upN m hp.length m.length j = n := fun j n h => by
    have hj := (List.getElem?_eq_some_iff.1 h).1
    have : Nat.blt j m.length = true := by simpa [Nat.blt_eq] using hj
    unfold upN
    rw [this]
    have := nget_eq hj
    rw [h] at this
    exact (Option.some.inj this).symm
  have hu2 : ∀ j, m.length ≤ j → upN m hp.length m.length j = hp.length + (j - m.length) := fun j h => by
    have : Nat.blt j m.length = false := by
      cases hb : Nat.blt j m.length with
      | false => rfl
      | true => have : j < m.length := by simpa [Nat.blt_eq] using hb
                omega
    unfold upN
    rw [this]
  have hj1 : ∀ n, n < hp.length → joinL ρ ρ1 hp.length m.length n = ρ n := fun n h => by simp [joinL, h]
  have hj2 : ∀ n, hp.length ≤ n → joinL ρ ρ1 hp.length m.length n = ρ1 (m.length + (n - hp.length)) := fun n h => by simp [joinL, Nat.not_lt.2 h]
  have hju : ∀ j, j < hp1.length ∨ m.length ≤ j → joinL ρ ρ1 hp.length m.length (upN m hp.length m.length j) = ρ1 j := fun j _ => by
    rcases Nat.lt_or_ge j m.length with h | h
    · have hjn : m[j]? = some m[j] := List.getElem?_eq_getElem h
      rw [hu1 j _ hjn, hj1 _ (hlt _ (List.getElem_mem h)), hx j h]
      simp [ren, hjn]
    · rw [hu2 j h, hj2 _ (by omega), show m.length + (hp.length + (j - m.length) - hp.length) = j by omega]
  have hup : UpOK (upN m hp.length m.length) ρ1 (joinL ρ ρ1 hp.length m.length) := fun j x hj => by
    rw [hju j ?_]
    · exact hj
    · rcases Nat.lt_or_ge j hp1.length with h | h
      · exact .inl h
      · rw [H1.dom j h] at hj; cases hj
  have hget := layL_get (u := upN m hp.length m.length) (r := hp1) hm hlt hk
  have hlen := layL_len (u := upN m hp.length m.length) (m := m) (r := hp1) (hp := hp) hk
  -- whose entry it is
  have hcase : ∀ n e, (layL (upN m hp.length m.length) m hp1 hp)[n]? = some e → (n ∉ m ∧ n < hp.length ∧ hp[n]? = some e) ∨ ∃ j e1, hp1[j]? = some e1 ∧ n = upN m hp.length m.length j ∧ e = upE (upN m hp.length m.length) e1 := by
    intro n e he
    by_cases hnm : n ∈ m
    · obtain ⟨j, hj⟩ := List.getElem?_of_mem hnm
      rw [(hget n).1 j hj] at he
      obtain ⟨e1, h1, h2⟩ := Option.map_eq_some_iff.1 he
      exact .inr ⟨j, e1, h1, (hu1 j n hj).symm, h2.symm⟩
    · rcases Nat.lt_or_ge n hp.length with h | h
      · rw [(hget n).2.1 hnm h] at he
        exact .inl ⟨hnm, h, he⟩
      · rw [(hget n).2.2 h] at he
        obtain ⟨e1, h1, h2⟩ := Option.map_eq_some_iff.1 he
        refine .inr ⟨_, e1, h1, ?_, h2.symm⟩
        rw [hu2 _ (by omega)]
        omega
  have hkeep : ∀ n b, n ∉ m → owns ρ hp n b → w'.heap[b]? = w.heap[b]? ∧ F1 b = w.heap[b]? := fun n b hnm hn => by
    have hb := owns_lt H hn
    have hs := restL_some (m := m) (Array.getElem?_eq_getElem hb) (fun k hk ho => hnm (by rw [H.sep n k b hn ho]; exact hk))
    have h1 := hF b _ hs
    rw [H1.frm _ _ h1, h1]
    exact ⟨(Array.getElem?_eq_getElem hb).symm, (Array.getElem?_eq_getElem hb).symm⟩
  have hown : ∀ n b, owns (joinL ρ ρ1 hp.length m.length) (layL (upN m hp.length m.length) m hp1 hp) n b → (n ∉ m ∧ n < hp.length ∧ owns ρ hp n b) ∨ ∃ j, n = upN m hp.length m.length j ∧ owns ρ1 hp1 j b := by
    rintro n b ⟨e, ba, ca, h1, h2, h3⟩
    rcases hcase n e h1 with ⟨h4, h5, h6⟩ | ⟨j, e1, h4, rfl, rfl⟩
    · exact .inl ⟨h4, h5, e, ba, ca, h6, h2, by rw [← hj1 n h5]; exact h3⟩
    · refine .inr ⟨j, rfl, e1, ba, ca, h4, by rw [← upE_own (u := upN m hp.length m.length)]; exact h2, ?_⟩
      rw [← hju j (.inl (List.getElem?_eq_some_iff.1 h4).1)]
      exact upE_lies e1 h3
  have hfrm : ∀ b o, F b = some o → F1 b = some o := fun b o h => hF b o (restL_some (H.frm _ _ h) fun n _ hn => by
    have := H.out n b hn
    rw [h] at this
    cases this)
  have hrF : ∀ b, restL ρ hp m w b = none → F b = none := fun b h => by
    cases hFb : F b with
    | none => rfl
    | some o =>
      rw [restL_some (H.frm _ _ hFb) fun n _ hn => by
        have := H.out n b hn
        rw [hFb] at this
        cases this] at h
      cases h
  refine ⟨fun b => match F b with | some o => some o | none => M1 b, ⟨fun b o h => by simp [h], hG.kn, fun b o h => ?_⟩, ⟨fun n e he => ?_, fun n n' b h1 h2 => ?_, fun n b h => ?_, fun b o h => ?_, fun b o h => ?_, fun n hn => ?_⟩, hup, fun n hn => hj1 n hn⟩
  · rcases hG.n b o h with h | h
    · exact .inl h
    · exact .inr (hrF b h)
  · rcases hcase n e he with ⟨h4, h5, h6⟩ | ⟨j, e1, h4, rfl, rfl⟩
    · exact (H.ent n e h6).keep (H.le (fun k hk => hj1 k hk)) (hj1 n h5) hG.kn fun b ba ca h7 h8 => (hkeep n b h4 ⟨e, ba, ca, h6, h7, h8⟩).1
    · exact upE_spec hup (hju j (.inl (List.getElem?_eq_some_iff.1 h4).1)) (H1.ent j e1 h4)
  · rcases hown n b h1 with ⟨h3, h4, h5⟩ | ⟨j, rfl, h5⟩ <;> rcases hown n' b h2 with ⟨h6, h7, h8⟩ | ⟨j', rfl, h8⟩
    · exact H.sep n n' b h5 h8
    · obtain ⟨_, h9⟩ := hkeep n b h3 h5
      rw [H1.out j' b h8, Array.getElem?_eq_getElem (owns_lt H h5)] at h9
      cases h9
    · obtain ⟨_, h9⟩ := hkeep n' b h6 h8
      rw [H1.out j b h5, Array.getElem?_eq_getElem (owns_lt H h8)] at h9
      cases h9
    · rw [H1.sep j j' b h5 h8]
  · rcases hown n b h with ⟨h3, h4, h5⟩ | ⟨j, rfl, h5⟩
    · simp only [H.out n b h5]
      cases hMb : M1 b with
      | none => rfl
      | some o =>
        rcases hG.n b o hMb with h6 | h6
        · have := H.out n b h5
          rw [H.sub _ _ h6] at this
          cases this
        · have hb := owns_lt H h5
          rw [restL_some (Array.getElem?_eq_getElem hb) (fun k hk ho => h3 (by rw [H.sep n k b h5 ho]; exact hk))] at h6
          cases h6
    · have h6 := H1.out j b h5
      cases hFb : F b with
      | none =>
        cases hMb : M1 b with
        | none => rfl
        | some o => rw [H1.sub _ _ hMb] at h6; cases h6
      | some o =>
        rw [hfrm b o hFb] at h6
        cases h6
  · cases hFb : F b with
    | none => rw [hFb] at h; exact H1.frm _ _ (H1.sub _ _ h)
    | some o' => rw [hFb] at h; cases h; exact H1.frm _ _ (hfrm b _ hFb)
  · cases hFb : F b with
    | none => exact h
    | some o' =>
      have h1 := hfrm b _ hFb
      rw [H1.sub _ _ h] at h1
      exact h1.symm
  · rw [hlen] at hn
    rw [hj2 n (by omega)]
    exact H1.dom _ (by omega)

def allBlt (n : Nat) : List Nat → Bool
  | [] => true
  | x :: r => match Nat.blt x n with
    | true => allBlt n r
    | false => false
abbrev Spec := List SV → List Ent → HL → (SV → List Ent → Prop) → Prop
/-- What a contract on a small heap says in a great one: 'm' names what it is handed. -/
def vFrame (S : Spec) (m : List Nat) (args : List SV) (hp : List Ent) (M : HL) (K : SV → List Ent → HL → Prop) : Prop :=
  match nodupB (llen hp) m, allBlt (llen hp) m with
  | true, true => dnL m args fun args0 => dnH m hp m fun hp0 => S args0 hp0 M fun v hp1 =>
      lenK hp fun nh => lenK m fun nm => upSK (upN m nh nm) v fun v => layC (upN m nh nm) m hp1 hp fun hp2 => K v hp2 M
  | _, _ => False

mutual
def nmS : SV → List Nat → (List Nat → Prop) → Prop
  | .ptr n _ _ _, q, K => K (n :: q)
  | .slc n _ _ _, q, K => K (n :: q)
  | .slx n _ _ _, q, K => K (n :: q)
  | .agg l, q, K => nmL l q K
  | .tup l, q, K => nmL l q K
  | .fn _ a b, q, K => nmL b q fun q => nmL a q K
  | .ifc _ x, q, K => nmS x q K
  | .rsl _, q, K => K q
  | .rpt .., q, K => K q
  | .via n _, q, K => K (n :: q)
  | .v _, q, K => K q
  | .emp, q, K => K q
  | .any, q, K => K q
def nmL : List SV → List Nat → (List Nat → Prop) → Prop
  | [], q, K => K q
  | s :: r, q, K => nmL r q fun q => nmS s q K
end
def nmE (e : Ent) (q : List Nat) (K : List Nat → Prop) : Prop :=
  match e with
  | .cells _ vs => nmL vs q K
  | .rcells _ vs => nmL vs q K
  | .gone => K q
  | .row .. => K q
  | .sub .. => K q
def addN (n : Nat) : List Nat → (List Nat → Prop) → Prop
  | [], K => K [n]
  | x :: r, K => addN n r fun r => K (x :: r)
def reach (hp : List Ent) : Nat → List Nat → List Nat → (List Nat → Prop) → Prop
  | 0, _, acc, K => K acc
  | _ + 1, [], acc, K => K acc
  | f + 1, n :: q, acc, K => match memN n acc with
    | true => reach hp f q acc K
    | false => addN n acc fun acc => nmE (eget hp n) q fun q => reach hp f q acc K

mutual
theorem nmS_ex : ∀ (s : SV) (q : List Nat) (K : List Nat → Prop), nmS s q K → ∃ q, K q
  | .ptr .., _, _, h | .slc .., _, _, h | .slx .., _, _, h | .rsl _, _, _, h | .rpt .., _, _, h | .via .., _, _, h | .v _, _, _, h | .emp, _, _, h | .any, _, _, h => ⟨_, by unfold nmS at h; exact h⟩
  | .agg l, q, K, h | .tup l, q, K, h => nmL_ex l q K (by unfold nmS at h; exact h)
  | .fn _ a b, q, K, h => by
    unfold nmS at h
    obtain ⟨q', h⟩ := nmL_ex b q _ h
    exact nmL_ex a q' K h
  | .ifc _ x, q, K, h => nmS_ex x q K (by unfold nmS at h; exact h)
theorem nmL_ex : ∀ (s : List SV) (q : List Nat) (K : List Nat → Prop), nmL s q K → ∃ q, K q
  | [], q, K, h => ⟨q, by unfold nmL at h; exact h⟩
  | s :: r, q, K, h => by
    unfold nmL at h
    obtain ⟨q', h⟩ := nmL_ex r q _ h
    exact nmS_ex s q' K h
end
theorem nmE_ex {e : Ent} {q : List Nat} {K : List Nat → Prop} (h : nmE e q K) : ∃ q, K q := by
  unfold nmE at h
  split at h
  · exact nmL_ex _ _ _ h
  · exact nmL_ex _ _ _ h
  · exact ⟨_, h⟩
  · exact ⟨_, h⟩
  · exact ⟨_, h⟩
theorem addN_ex {n : Nat} : ∀ {l : List Nat} {K : List Nat → Prop}, addN n l K → ∃ q, K q
  | [], K, h => ⟨_, h⟩
  | x :: r, K, h => by
    unfold addN at h
    obtain ⟨q, h⟩ := addN_ex h
    exact ⟨_, h⟩
theorem reach_ex {hp : List Ent} : ∀ {f : Nat} {q acc : List Nat} {K : List Nat → Prop}, reach hp f q acc K → ∃ m, K m
  | 0, q, acc, K, h => ⟨acc, by unfold reach at h; exact h⟩
  | f + 1, [], acc, K, h => ⟨acc, by unfold reach at h; exact h⟩
  | f + 1, n :: q, acc, K, h => by
    unfold reach at h
    split at h
    · exact reach_ex h
    · obtain ⟨acc', h⟩ := addN_ex h
      obtain ⟨q', h⟩ := nmE_ex h
      exact reach_ex h

/-- A contract on a small heap, in any heap. -/
def frameT (S : Spec) : Trans := fun args hp M K => nmL args [] fun q => reach hp 64 q [] fun m => vFrame S m args hp M K
def SOK (P : Program) (f : FuncId) (S : Spec) : Prop := TOK P f fun args hp M K => S args hp M fun v hp' => K v hp' M

theorem notin_mem {n x : Nat} (hx : x < n) : ∀ {r : List Nat}, notin n x r = true → x ∉ r
  | [], _ => by simp
  | y :: r, h => by
    unfold notin at h
    split at h
    · cases h
    · rename_i h0
      intro hm
      rcases List.mem_cons.1 hm with he | hm
      · subst he
        have h1 : Nat.beq x x = true := Nat.beq_refl x
        have h2 : Nat.blt x n = true := by simpa [Nat.blt_eq] using hx
        exact h0 h1 h2
      · exact notin_mem hx h hm
theorem nodupB_all {n : Nat} : ∀ {m : List Nat}, allBlt n m = true → nodupB n m = true → m.Nodup ∧ ∀ x ∈ m, x < n
  | [], _, _ => ⟨List.nodup_nil, by simp⟩
  | x :: r, h1, h2 => by
    unfold allBlt at h1
    unfold nodupB at h2
    split at h1
    case h_2 => cases h1
    rename_i hx
    have hx : x < n := by simpa [Nat.blt_eq] using hx
    split at h2
    case h_2 => cases h2
    rename_i hni
    obtain ⟨h3, h4⟩ := nodupB_all h1 h2
    exact ⟨List.nodup_cons.2 ⟨notin_mem hx hni, h3⟩, fun y hy => by
      rcases List.mem_cons.1 hy with rfl | hy
      · exact hx
      · exact h4 y hy⟩

theorem frame_ok {P : Program} {f : FuncId} {S : Spec} (hS : SOK P f S) : TOK P f (frameT S) := by
  refine ⟨hS.1, fun args hp M K h ρ F w vs H hD => ?_⟩
  obtain ⟨q, h⟩ := nmL_ex _ _ _ h
  obtain ⟨m, h⟩ := reach_ex h
  unfold vFrame at h
  split at h
  case h_2 => exact h.elim
  rename_i hn hb
  rw [llen_eq] at hn hb
  obtain ⟨hnd, hlt⟩ := nodupB_all hb hn
  obtain ⟨args0, h, hargs⟩ := dnL_spec (ρ := ρ) m _ _ h
  obtain ⟨hp0, h, hl0, hE0⟩ := dnH_spec (ρ := ρ) (M := M) (w := w) h
  have H0 := H.down hnd hlt hl0 hE0
  simp only [lenK_eq, llen_eq] at h
  have hc := hS.2 args0 hp0 M (fun v hp' M' => M' = M ∧ upSK (upN m hp.length m.length) v fun v => layC (upN m hp.length m.length) m hp' hp fun hp2 => K v hp2 M)
    (by simpa using h) (ren ρ m) (restL ρ hp m w) w vs H0 (hargs vs hD)
  refine hc.mono fun e w' ⟨v, he, hpost⟩ => ⟨v, he, ?_⟩
  obtain ⟨sv, ρ1, hp1, M1, F1, ⟨rfl, h1⟩, hl1, hx, H1, hF, hSm, hd⟩ := hpost
  rw [upSK_eq, layC_iff] at h1
  obtain ⟨_, h1⟩ := h1
  rw [hl0] at hl1 hx
  obtain ⟨F', hG, H2, hup, hext⟩ := H.up hnd hlt hl1 hx H1 hF
  exact ⟨_, _, _, _, F', h1, by rw [layL_len hl1]; omega, hext, H2, hG, hSm, upS_spec hup _ _ hd⟩
/-- The same for a contract that lets blocks be. -/
def vFrameM (S : Trans) (m : List Nat) (args : List SV) (hp : List Ent) (M : HL) (K : SV → List Ent → HL → Prop) : Prop :=
  match nodupB (llen hp) m, allBlt (llen hp) m with
  | true, true => dnL m args fun args0 => dnH m hp m fun hp0 => S args0 hp0 M fun v hp1 M1 =>
      lenK hp fun nh => lenK m fun nm => upSK (upN m nh nm) v fun v => layC (upN m nh nm) m hp1 hp fun hp2 => K v hp2 M1
  | _, _ => False
def frameM (S : Trans) : Trans := fun args hp M K => nmL args [] fun q => reach hp 64 q [] fun m => vFrameM S m args hp M K
theorem frameM_ok {P : Program} {f : FuncId} {S : Trans} (hS : TOK P f S) : TOK P f (frameM S) := by
  refine ⟨hS.1, fun args hp M K h ρ F w vs H hD => ?_⟩
  obtain ⟨q, h⟩ := nmL_ex _ _ _ h
  obtain ⟨m, h⟩ := reach_ex h
  unfold vFrameM at h
  split at h
  case h_2 => exact h.elim
  rename_i hn hb
  rw [llen_eq] at hn hb
  obtain ⟨hnd, hlt⟩ := nodupB_all hb hn
  obtain ⟨args0, h, hargs⟩ := dnL_spec (ρ := ρ) m _ _ h
  obtain ⟨hp0, h, hl0, hE0⟩ := dnH_spec (ρ := ρ) (M := M) (w := w) h
  have H0 := H.down hnd hlt hl0 hE0
  simp only [lenK_eq, llen_eq] at h
  refine (hS.2 args0 hp0 M _ h (ren ρ m) (restL ρ hp m w) w vs H0 (hargs vs hD)).mono fun e w' ⟨v, he, hpost⟩ => ⟨v, he, ?_⟩
  obtain ⟨sv, ρ1, hp1, M1, F1, h1, hl1, hx, H1, hF, hSm, hd⟩ := hpost
  rw [upSK_eq, layC_iff] at h1
  obtain ⟨_, h1⟩ := h1
  rw [hl0] at hl1 hx
  obtain ⟨F', hG, H2, hup, hext⟩ := H.up hnd hlt hl1 hx H1 hF
  exact ⟨_, _, _, _, F', h1, by rw [layL_len hl1]; omega, hext, H2, hG, hSm, upS_spec hup _ _ hd⟩

/-- A new name for a slice that lies in what stays. -/
theorem Holds.open {ρ : Nat → Loc} {hp : List Ent} {M F : HL} {w : World} (H : Holds ρ hp M F w) {e : TypeId} {ck : List CK} {y : Value} {rows : List (List Value)} (hR : RowsIn M e ck y rows) :
    ∃ l, Holds (grow ρ hp.length l) (hp ++ [.row false e ck rows]) M F w ∧ Den (grow ρ hp.length l) (.slc hp.length ck.length 0 rows.length) y := by
  have key : ∀ l, EntOK (grow ρ hp.length l) M w hp.length (.row false e ck rows) → Holds (grow ρ hp.length l) (hp ++ [.row false e ck rows]) M F w := fun l hE => by
    have hcase : ∀ m c, owns (grow ρ hp.length l) (hp ++ [.row false e ck rows]) m c → owns ρ hp m c := by
      rintro m c ⟨e1, ba, ca, h1, h2, h3⟩
      by_cases hm : m < hp.length
      · rw [List.getElem?_append_left hm] at h1
        rw [grow_ne _ _ (by omega)] at h3
        exact ⟨e1, ba, ca, h1, h2, h3⟩
      · have := (List.getElem?_eq_some_iff.1 h1).1
        simp at this
        obtain rfl : m = hp.length := by omega
        simp at h1
        subst h1
        cases h2
    refine ⟨fun m e1 h1 => ?_, fun m k c h1 h2 => H.sep m k c (hcase _ _ h1) (hcase _ _ h2), fun m c h1 => H.out m c (hcase _ _ h1), H.frm, H.sub, fun m hm => ?_⟩
    · by_cases hm : m < hp.length
      · rw [List.getElem?_append_left hm] at h1
        exact (H.ent m e1 h1).keep (H.le (grow_ext _ _ _)) (grow_ne _ _ (by omega)) (FLe.refl M) fun _ _ _ _ _ => rfl
      · have := (List.getElem?_eq_some_iff.1 h1).1
        simp at this
        obtain rfl : m = hp.length := by omega
        simp at h1
        subst h1
        exact hE
    · simp at hm
      rw [grow_ne _ _ (by omega)]
      exact H.dom m (by omega)
  obtain ⟨h0, ⟨rfl, a, rfl⟩ | ⟨b, base, c, cur, fr, rfl, h2, h3, h4⟩⟩ := hR
  · refine ⟨none, key _ ⟨h0, ?_⟩, a, 0, rfl, Nat.le_refl _, .inl rfl⟩
    simp [grow_self]
  · refine ⟨some (b, base, c), key _ ⟨h0, ?_⟩, _, c, rfl, h2, .inr ⟨b, base, c, grow_self _ _ _, by simp, by omega⟩⟩
    simp only [grow_self, Bool.false_eq_true, if_false]
    exact ⟨cur, fr, h3, h2, h4⟩
/-- The i-th of what a call is handed gets a name. -/
def openAt (T : Trans) (i : Nat) : Trans := fun args hp M K => ∃ y e ck rows, args[i]? = some (.rsl y) ∧ RowsIn M e ck y rows ∧ T (args.set i (.slc hp.length ck.length 0 rows.length)) (hp ++ [.row false e ck rows]) M K
theorem openAt_ok {P : Program} {f : FuncId} {T : Trans} (hT : TOK P f T) (i : Nat) : TOK P f (openAt T i) := by
  refine ⟨hT.1, fun args hp M K h ρ F w vs H hD => ?_⟩
  obtain ⟨y, e, ck, rows, hi, hR, h⟩ := h
  obtain ⟨l, H', hd⟩ := H.open hR
  obtain ⟨v, hv, hdv⟩ := hD.get hi
  obtain rfl : v = y := hdv.1
  have hD' := (hD.mono (H.le (grow_ext ρ hp.length l))).set hd i
  have hset : vs.set i v = vs := by
    apply List.ext_getElem?
    intro j
    by_cases hj : i = j
    · subst hj; rw [List.getElem?_set_self (List.getElem?_eq_some_iff.1 hv).1, hv]
    · rw [List.getElem?_set_ne hj]
  rw [hset] at hD'
  refine (hT.2 _ _ M K h _ F w vs H' hD').mono fun e w' ⟨v, he, sv, ρ', hp', M', F', h1, h2, h3, h4⟩ => ⟨v, he, sv, ρ', hp', M', F', h1, by simp at h2; omega, (grow_ext ρ hp.length l).trans (h3.mono (by simp)), h4⟩
/-- One contract or another one. -/
def orT (T T' : Trans) : Trans := fun args hp M K => T args hp M K ∨ T' args hp M K
theorem orT_ok {P : Program} {f : FuncId} {T T' : Trans} (hT : TOK P f T) (hT' : TOK P f T') : TOK P f (orT T T') :=
  ⟨hT.1, fun args hp M K h => h.elim (hT.2 args hp M K) (hT'.2 args hp M K)⟩
end Go.Vc
/-
  Symbolic execution, part S: tables of functions; helps for invariants.
-/
namespace Go.Vc

def tget {α : Type} : List (Nat × α) → Nat → Option α
  | [], _ => none
  | (j, x) :: r, i => match Nat.beq j i with
    | true => some x
    | false => tget r i
def tabStep (specs : Nat → Option Trans) (tab : Nat → Option PFn) (Γ : Nat → Option Trans) : Nat → Option Trans := fun f => match specs f with
  | some T => some T
  | none => match tab f with
    | some pf => some (runF Γ pf)
    | none => none
/-- Functions by their texts, n deep; those of 'specs' by their contracts. -/
noncomputable def tabG (specs : Nat → Option Trans) (tab : Nat → Option PFn) (n : Nat) : Nat → Option Trans :=
  Nat.rec (motive := fun _ => Nat → Option Trans) specs (fun _ Γ => tabStep specs tab Γ) n
theorem tabG_ok {P : Program} {specs : Nat → Option Trans} {tab : Nat → Option PFn} (hs : GOK P specs) (ht : ∀ f pf, tab f = some pf → ∀ Γ, GOK P Γ → TOK P f (runF Γ pf)) : ∀ n, GOK P (tabG specs tab n)
  | 0 => hs
  | n + 1 => by
    intro f T h
    change tabStep specs tab (tabG specs tab n) f = some T at h
    unfold tabStep at h
    split at h
    · rename_i T' hT'
      cases h
      exact hs f _ hT'
    · split at h
      · rename_i pf hpf
        cases h
        exact ht f pf hpf _ (tabG_ok hs ht n)
      · cases h
theorem GOK.none {P : Program} : GOK P fun _ => none := fun _ _ h => by cases h
theorem GOK.cons {P : Program} {l : List (Nat × Trans)} {f : Nat} {T : Trans} (h : TOK P f T) (hl : GOK P (tget l)) : GOK P (tget ((f, T) :: l)) := by
  intro g U hg
  unfold tget at hg
  split at hg
  · rename_i hb
    have := Nat.eq_of_beq_eq_true hb
    subst this
    cases hg
    exact h
  · exact hl g U hg
theorem GOK.nil {P : Program} : GOK P (tget []) := fun _ _ h => by cases h
/-- Every text of a table is the program's. -/
def TabOK (P : Program) (l : List (Nat × PFn)) : Prop := ∀ f pf, tget l f = some pf → ∀ Γ, GOK P Γ → TOK P f (runF Γ pf)
theorem TabOK.nil {P : Program} : TabOK P [] := fun _ _ h => by cases h
theorem TabOK.cons {P : Program} (hm : P.follows .mixedOrders = true) {l : List (Nat × PFn)} {f : Nat} {pf : PFn} {pl : Nat → DT} {fn : Func} (hf : P.funcs[f]? = some fn ∧ (fn.name == "runtime.NumGoroutine") = false) (h : (fn.body.map fun c => (cfn P pl fn c, guardsAll pl c)) = some (pf, true))
    (hl : TabOK P l) (h0 : bkOf (pl 999999) = [] := by rfl) : TabOK P ((f, pf) :: l) := by
  intro g pg hg Γ hG
  unfold tget at hg
  split at hg
  · rename_i hb
    have := Nat.eq_of_beq_eq_true hb
    subst this
    cases hg
    exact runF_eq hG hm hf.1 hf.2 h h0
  · exact hl g pg hg Γ hG

/-! ### Slots by number: the others hold anything -/
def tmk : Nat → Nat → List (Nat × SV) → List SV
  | 0, _, _ => []
  | n + 1, j, [] => .any :: tmk n (j + 1) []
  | n + 1, j, (i, x) :: r => match Nat.beq i j with
    | true => x :: tmk n (j + 1) r
    | false => .any :: tmk n (j + 1) ((i, x) :: r)
def tmkK : Nat → Nat → List (Nat × SV) → (List SV → Prop) → Prop
  | 0, _, _, K => K []
  | n + 1, j, [], K => tmkK n (Nat.succ j) [] fun l => K (.any :: l)
  | n + 1, j, (i, x) :: r, K => match Nat.beq i j with
    | true => tmkK n (Nat.succ j) r fun l => K (x :: l)
    | false => tmkK n (Nat.succ j) ((i, x) :: r) fun l => K (.any :: l)
theorem tmkK_eq : ∀ (n j : Nat) (l : List (Nat × SV)) (K : List SV → Prop), tmkK n j l K = K (tmk n j l)
  | 0, _, _, _ => by simp [tmkK, tmk]
  | n + 1, j, [], K => by simp only [tmkK, tmk, tmkK_eq n]
  | n + 1, j, (i, x) :: r, K => by
    unfold tmkK tmk
    cases Nat.beq i j <;> simp only [tmkK_eq n]
end Go.Vc
