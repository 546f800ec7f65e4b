/-
  Symbolic execution, part Z: what holds of operations anywhere holds of them in a round of a range over a function.
-/
import Derived.Test.YthomcgclkbmnkaaDoorVcq
import Derived.OrdersIn
import Derived.TacticsIn
import Derived.RangeFuncIn
import Derived.RangeFuncLeaves
import Derived.RangeFuncRecord
namespace Go.Vc

/-- No bars at all; the frame's make. -/
def Wd (ro : Option Nat) : Fence := { Fence.wide with round := ro }
theorem stepsIn_wd {P : Program} {ro : Option Nat} {m m' : Machine} : StepsIn (Machine.fenced P (Wd ro)) P m m' ↔ Steps P m m' := stepsIn_wide
theorem room_wd (ro : Option Nat) (n : Nat) : (Wd ro).room n := room_wide n
theorem callsIn_wd {ro : Option Nat} {n : Nat} {P : Program} {f : FuncId} {args : Array Value} {w : World} {R : Ending → World → Prop} : CallsIn (Wd ro) n P f args w R ↔ Calls P f args w R := callsIn_wide
theorem rowsIn_wd {ro : Option Nat} {n : Nat} {P : Program} {row : String} {args : Array Value} {w : World} {R : Value → World → Prop} (h : Rows P row args w R) : Go.RowsIn (Wd ro) n P row args w R :=
  fun c cs _ => by
    obtain ⟨v, w', hR, hs⟩ := h c cs
    exact ⟨v, w', hR, stepsIn_wd.2 hs⟩

def noDefer (ops : Array Oper) : Bool := ops.toList.all fun o => match o.op with | .defer _ => false | _ => true
theorem noDefer_spec {ops : Array Oper} (h : noDefer ops = true) : ∀ o ∈ ops.toList, ∀ c, o.op ≠ .defer c := by
  intro o ho c hc
  have := List.all_eq_true.1 h o ho
  rw [hc] at this
  cases this

section
variable {ro : Option Nat} {n : Nat} {P : Program} {ops : Array Oper} {Q : Exit → Act → World → Prop}

theorem op_in {o : Oper} {a : Act} {w : World} {K : Act → World → Prop} (hd : ∀ c, o.op ≠ .defer c) (h : o.wp P a w K Q) : o.wpIn (Wd ro) n P a w K Q := by
  refine ⟨fun _ _ => trivial, ?_⟩
  rw [Oper.semAt_eq _ _ _ hd]
  unfold Oper.wp at h
  generalize (execOp a.eval o).run P w = r at h ⊢
  cases r with
  | ok x w' =>
    cases x with
    | enter f args => exact ⟨fun h => (by cases h), callsIn_wd.2 h⟩
    | row row args => exact ⟨fun h => (by cases h), rowsIn_wd h⟩
    | _ => first | exact h | exact h.elim
  | halt x w' => cases x <;> first | exact h | exact h.elim

theorem list_in (hQ : ¬ LetsOut Q) : ∀ (l : List Oper) (_ : ∀ o ∈ l, ∀ c, o.op ≠ .defer c) (a : Act) (w : World), wpList P ops Q l a w → wpListIn (Wd ro) n P ops Q l a w
  | [], _, _, _, h => h
  | o :: l, hd, a, w, h => by
    unfold wpList at h
    unfold wpListIn
    split
    · rename_i hw
      rw [if_pos hw] at h
      rcases h with h | h
      · exact Oper.wpIn_mono (fun a w h => list_in hQ l (fun o ho => hd o (by simp [ho])) a w h) (op_in (hd o (by simp)) h)
      · exact absurd h.2 hQ
    · rename_i hw
      rw [if_neg hw] at h
      exact ⟨fun _ _ => trivial, list_in hQ l (fun o ho => hd o (by simp [ho])) _ w h⟩

theorem wpOp_in (hQ : ¬ LetsOut Q) (hd : ∀ o ∈ ops.toList, ∀ c, o.op ≠ .defer c) {i : Nat} {K K' : Act → World → Prop} {a : Act} {w : World} (hK : ∀ a w, K a w → K' a w) (h : wpOp P ops Q i K a w) : wpOpIn (Wd ro) n P ops Q i K' a w := by
  unfold wpOp at h
  unfold wpOpIn
  cases ho : ops[i]? with
  | none => rw [ho] at h; exact hK _ _ h
  | some o =>
    rw [ho] at h
    dsimp only at h ⊢
    have hm : o ∈ ops.toList := by
      have := Array.getElem?_eq_some_iff.1 ho
      obtain ⟨hlt, he⟩ := this
      rw [← he]
      exact Array.mem_toList_iff.2 (Array.getElem_mem hlt)
    split
    · rename_i hw
      rw [if_pos hw] at h
      rcases h with h | h
      · exact Oper.wpIn_mono hK (op_in (hd o hm) h)
      · exact absurd h.2 hQ
    · rename_i hw
      rw [if_neg hw] at h
      exact ⟨fun _ _ => trivial, hK _ _ h⟩

theorem any_in {md : Region.Mode} (hQ : ¬ LetsOut Q) (hd : ∀ o ∈ ops.toList, ∀ c, o.op ≠ .defer c) : ∀ (fuel : Nat) (listed : Array Bool) (a : Act) (w : World), wpAny P md ops Q fuel listed a w → wpAnyIn (Wd ro) n P md ops Q fuel listed a w
  | 0, _, _, _, h => h
  | fuel + 1, _, _, _, h => ⟨h.1, fun i hi => wpOp_in hQ hd (fun a w h => any_in hQ hd fuel _ a w h) (h.2 i hi)⟩
end

theorem wpIn_loopN {F : Fence} {m : Nat} {P : Program} {c : Code} {Q : Exit → Act → World → Prop} (I : Nat → Act → World → Prop)
    (round : ∀ n a w, I n a w → c.wpIn F m P (Exit.then (fun a' w' => ∃ n', n' < n ∧ I n' a' w') Q) a w) {n : Nat} {a : Act} {w : World} (h : I n a w) : (Code.loop c).wpIn F m P Q a w := by
  intro b k cs hro hb hr
  have key : ∀ n a w, I n a w → ∃ e a' w', Q e a' w' ∧ ArrivesIn (Machine.fenced P F) P (lone (b.atR a (.code c :: .inLoop c :: k)) cs w) b k cs e a' w' := by
    intro n
    induction n using Nat.strongRecOn with
    | _ n ih =>
      intro a w hI
      obtain ⟨e, a1, w1, hq, harr⟩ := round n a w hI b (.inLoop c :: k) cs hro hb hr
      cases e with
      | normal =>
        obtain ⟨n', hlt, hI'⟩ := hq
        obtain ⟨e2, a2, w2, hq2, harr2⟩ := ih n' hlt _ _ hI'
        exact ⟨e2, a2, w2, hq2, .of_steps (StepsIn.trans harr (.one (fenced_calm (fr := b.atR a1 (.inLoop c :: k)) hb hr rfl) stepR_inLoop)) harr2⟩
      | exit id => exact ⟨_, a1, w1, hq, .pass (x := .inLoop c) rfl (fun _ _ => .inl (by simp)) harr⟩
      | goto l => exact ⟨_, a1, w1, hq, .pass (x := .inLoop c) rfl (fun _ _ => .inl (by simp)) harr⟩
      | ret => exact ⟨_, a1, w1, hq, .pass (x := .inLoop c) rfl (fun _ _ => .inl (by simp)) harr⟩
      | panic ch => exact ⟨_, a1, w1, hq, .pass (x := .inLoop c) rfl (fun _ _ => .inl (by simp)) harr⟩
      | outgrown => exact ⟨_, a1, w1, hq, .pass (x := .inLoop c) rfl (fun _ _ => .inl (by simp)) harr⟩
  obtain ⟨e, a', w', hq, harr⟩ := key n a w h
  exact ⟨e, a', w', hq, .of_steps (.one (fenced_calm (fr := b.atR a (.code (.loop c) :: k)) hb hr rfl) stepR_loop) harr⟩
end Go.Vc
