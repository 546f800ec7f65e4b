/-
  A region whose order is drawn and one of whose operations is the yield of a range: what comes ahead of the yield is a region by itself.
-/
import Derived.Test.YthomcgclkbmnkaaDoorVcn
namespace Go.Vc
/-- All orders run through 'opsP' first, then through the operations of 'tl' one after the other. -/
def tailOK (ops : Array Oper) : List Nat → Array Bool → Bool
  | [], listed => Region.ready .any ops listed == []
  | i :: r, listed => Region.ready .any ops listed == [i] && tailOK ops r (listed.setIfInBounds i true)
def splitOK (ops opsP : Array Oper) (tl : List Nat) : Nat → Array Bool → Array Bool → Bool
  | 0, listed, listedP => Region.ready .any opsP listedP == [] && tailOK ops tl listed
  | f + 1, listed, listedP => if Region.ready .any opsP listedP == [] then false else Region.ready .any ops listed == Region.ready .any opsP listedP &&
      (Region.ready .any opsP listedP).all fun i => splitOK ops opsP tl f (listed.setIfInBounds i true) (listedP.setIfInBounds i true)
section
variable {ro : Option Nat} {n : Nat} {P : Program} {ops opsP : Array Oper} {Q : Exit → Act → World → Prop}
def tailIn (ro : Option Nat) (n : Nat) (P : Program) (ops : Array Oper) (Q : Exit → Act → World → Prop) : List Nat → Act → World → Prop
  | [], a, w => Q .normal a w
  | i :: r, a, w => wpOpIn (Wd ro) n P ops Q i (tailIn ro n P ops Q r) a w
def splitQ (ro : Option Nat) (n : Nat) (P : Program) (ops : Array Oper) (Q : Exit → Act → World → Prop) (tl : List Nat) : Exit → Act → World → Prop
  | .normal, a, w => tailIn ro n P ops Q tl a w
  | e, a, w => Q e a w
theorem wpOpIn_mono {i : Nat} {K K' : Act → World → Prop} (hK : ∀ a w, K a w → K' a w) {a : Act} {w : World} (h : wpOpIn (Wd ro) n P ops Q i K a w) : wpOpIn (Wd ro) n P ops Q i K' a w := by
  unfold wpOpIn at h ⊢
  cases ho : ops[i]? with
  | none => rw [ho] at h; exact hK _ _ h
  | some o =>
    rw [ho] at h
    dsimp only at h ⊢
    split
    · rename_i hw
      rw [if_pos hw] at h
      exact Oper.wpIn_mono hK h
    · rename_i hw
      rw [if_neg hw] at h
      exact ⟨h.1, hK _ _ h.2⟩
theorem tail_in : ∀ (tl : List Nat) (listed : Array Bool) (a : Act) (w : World), tailOK ops tl listed = true → tailIn ro n P ops Q tl a w → wpAnyIn (Wd ro) n P .any ops Q tl.length listed a w
  | [], listed, a, w, hk, h => ⟨by simpa [tailOK] using hk, h⟩
  | i :: r, listed, a, w, hk, h => by
    simp only [tailOK, Bool.and_eq_true, beq_iff_eq] at hk
    refine ⟨fun h0 => ?_, fun j hj => ?_⟩
    · rw [hk.1] at h0; cases h0
    · rw [hk.1, List.mem_singleton] at hj
      subst hj
      exact wpOpIn_mono (fun a w h => tail_in r _ a w hk.2 h) h
theorem split_in {tl : List Nat} (hQ : ¬ LetsOut Q) (hd : ∀ o ∈ opsP.toList, ∀ c, o.op ≠ .defer c) (hops : ∀ (i : Nat) (o : Oper), opsP[i]? = some o → ops[i]? = some o ∧ ∀ j want, o.guard = some (j, want) → opsP[j]? = ops[j]?) :
    ∀ (f : Nat) (listed listedP : Array Bool) (a : Act) (w : World), splitOK ops opsP tl f listed listedP = true → wpAny P .any opsP (splitQ ro n P ops Q tl) f listedP a w → wpAnyIn (Wd ro) n P .any ops Q (f + tl.length) listed a w
  | 0, listed, listedP, a, w, hk, h => by
    simp only [splitOK, Bool.and_eq_true] at hk
    rw [Nat.zero_add]
    exact tail_in tl listed a w hk.2 h.2
  | f + 1, listed, listedP, a, w, hk, h => by
    unfold splitOK at hk
    split at hk
    · cases hk
    rename_i hne
    rw [Bool.and_eq_true, beq_iff_eq, List.all_eq_true] at hk
    rw [show f + 1 + tl.length = (f + tl.length) + 1 by omega]
    refine ⟨fun h0 => ?_, fun i hi => ?_⟩
    · rw [hk.1] at h0
      exact absurd (by rw [h0]; rfl) hne
    · rw [hk.1] at hi
      have h1 := h.2 i hi
      have hk1 := hk.2 i hi
      have ih := fun a w h => split_in hQ hd hops f (listed.setIfInBounds i true) (listedP.setIfInBounds i true) a w hk1 h
      unfold wpOp at h1
      have hsz : i < opsP.size := by
        have := List.mem_filter.1 hi
        exact List.mem_range.1 this.1
      have ho : opsP[i]? = some opsP[i] := Array.getElem?_eq_getElem hsz
      obtain ⟨ho2, hgd⟩ := hops i _ ho
      rw [ho] at h1
      dsimp only at h1
      unfold wpOpIn
      rw [ho2]
      dsimp only
      have hw : Region.wanted opsP[i] (yielded ops a.tmps) = Region.wanted opsP[i] (yielded opsP a.tmps) := by
        unfold Region.wanted
        cases hg : opsP[i].guard with
        | none => rfl
        | some x =>
          obtain ⟨j, want⟩ := x
          simp only [yielded, hgd j want hg]
      rw [hw]
      split
      · rename_i hw1
        rw [if_pos hw1] at h1
        have hm : opsP[i] ∈ opsP.toList := Array.mem_toList_iff.2 (Array.getElem_mem hsz)
        rcases h1 with h1 | h1
        · have h2 : opsP[i].wp P a w (wpAny P .any opsP (splitQ ro n P ops Q tl) f (listedP.setIfInBounds i true)) Q := h1
          exact Oper.wpIn_mono ih (op_in (hd _ hm) h2)
        · exact absurd (show LetsOut Q from h1.2) hQ
      · rename_i hw1
        rw [if_neg hw1] at h1
        exact ⟨fun _ _ => trivial, ih _ _ h1⟩
end
end Go.Vc
