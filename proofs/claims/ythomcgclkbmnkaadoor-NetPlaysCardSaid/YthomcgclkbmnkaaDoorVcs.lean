/-
  Symbolic execution, part S: tables of functions; helps for invariants.
-/
import Derived.Test.YthomcgclkbmnkaaDoorVcr
namespace Go.Vc

def tget {α : Type} : List (Nat × α) → Nat → Option α
  | [], _ => none
  | (j, x) :: r, i => match Nat.beq j i with
    | true => some x
    | false => tget r i
def tabStep (specs : Nat → Option Trans) (tab : Nat → Option PFn) (Γ : Nat → Option Trans) : Nat → Option Trans := fun f => match specs f with
  | some T => some T
  | none => match tab f with
    | some pf => some (runF Γ pf)
    | none => none
/-- Functions by their texts, n deep; those of 'specs' by their contracts. -/
noncomputable def tabG (specs : Nat → Option Trans) (tab : Nat → Option PFn) (n : Nat) : Nat → Option Trans :=
  Nat.rec (motive := fun _ => Nat → Option Trans) specs (fun _ Γ => tabStep specs tab Γ) n
theorem tabG_ok {P : Program} {specs : Nat → Option Trans} {tab : Nat → Option PFn} (hs : GOK P specs) (ht : ∀ f pf, tab f = some pf → ∀ Γ, GOK P Γ → TOK P f (runF Γ pf)) : ∀ n, GOK P (tabG specs tab n)
  | 0 => hs
  | n + 1 => by
    intro f T h
    change tabStep specs tab (tabG specs tab n) f = some T at h
    unfold tabStep at h
    split at h
    · rename_i T' hT'
      cases h
      exact hs f _ hT'
    · split at h
      · rename_i pf hpf
        cases h
        exact ht f pf hpf _ (tabG_ok hs ht n)
      · cases h
theorem GOK.none {P : Program} : GOK P fun _ => none := fun _ _ h => by cases h
theorem GOK.cons {P : Program} {l : List (Nat × Trans)} {f : Nat} {T : Trans} (h : TOK P f T) (hl : GOK P (tget l)) : GOK P (tget ((f, T) :: l)) := by
  intro g U hg
  unfold tget at hg
  split at hg
  · rename_i hb
    have := Nat.eq_of_beq_eq_true hb
    subst this
    cases hg
    exact h
  · exact hl g U hg
theorem GOK.nil {P : Program} : GOK P (tget []) := fun _ _ h => by cases h
/-- Every text of a table is the program's. -/
def TabOK (P : Program) (l : List (Nat × PFn)) : Prop := ∀ f pf, tget l f = some pf → ∀ Γ, GOK P Γ → TOK P f (runF Γ pf)
theorem TabOK.nil {P : Program} : TabOK P [] := fun _ _ h => by cases h
theorem TabOK.cons {P : Program} (hm : P.follows .mixedOrders = true) {l : List (Nat × PFn)} {f : Nat} {pf : PFn} {pl : Nat → DT} {fn : Func} (hf : P.funcs[f]? = some fn ∧ (fn.name == "runtime.NumGoroutine") = false) (h : (fn.body.map fun c => (cfn P pl fn c, guardsAll pl c)) = some (pf, true))
    (hl : TabOK P l) (h0 : bkOf (pl 999999) = [] := by rfl) : TabOK P ((f, pf) :: l) := by
  intro g pg hg Γ hG
  unfold tget at hg
  split at hg
  · rename_i hb
    have := Nat.eq_of_beq_eq_true hb
    subst this
    cases hg
    exact runF_eq hG hm hf.1 hf.2 h h0
  · exact hl g pg hg Γ hG

/-! ### Slots by number: the others hold anything -/
def tmk : Nat → Nat → List (Nat × SV) → List SV
  | 0, _, _ => []
  | n + 1, j, [] => .any :: tmk n (j + 1) []
  | n + 1, j, (i, x) :: r => match Nat.beq i j with
    | true => x :: tmk n (j + 1) r
    | false => .any :: tmk n (j + 1) ((i, x) :: r)
def tmkK : Nat → Nat → List (Nat × SV) → (List SV → Prop) → Prop
  | 0, _, _, K => K []
  | n + 1, j, [], K => tmkK n (Nat.succ j) [] fun l => K (.any :: l)
  | n + 1, j, (i, x) :: r, K => match Nat.beq i j with
    | true => tmkK n (Nat.succ j) r fun l => K (x :: l)
    | false => tmkK n (Nat.succ j) ((i, x) :: r) fun l => K (.any :: l)
theorem tmkK_eq : ∀ (n j : Nat) (l : List (Nat × SV)) (K : List SV → Prop), tmkK n j l K = K (tmk n j l)
  | 0, _, _, _ => by simp [tmkK, tmk]
  | n + 1, j, [], K => by simp only [tmkK, tmk, tmkK_eq n]
  | n + 1, j, (i, x) :: r, K => by
    unfold tmkK tmk
    cases Nat.beq i j <;> simp only [tmkK_eq n]
end Go.Vc
