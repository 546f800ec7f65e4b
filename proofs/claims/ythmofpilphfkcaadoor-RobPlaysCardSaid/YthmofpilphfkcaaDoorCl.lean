/-
  RobPlays: contracts together; plain facts about ordered numbers.
-/
import Derived.Test.YthmofpilphfkcaaDoorCk
import Derived.Test.YthmofpilphfkcaaDoorCt
namespace Go.Proofs.YthmofpilphfkcaaDoor
open Go Go.Vc
set_option maxRecDepth 100000
set_option linter.unusedSimpArgs false
set_option linter.unusedVariables false
noncomputable def specsP : Nat → Option Vc.Trans := tget [(6, frameT firstS), (8, frameT newS), (15, frameT isS), (9, frameT pushS), (16, frameT xpushS), (10, openAt (frameT doneS) 1), (17, openAt (frameT xdoneS) 1), (11, frameT popS), (18, frameT xpopS), (13, frameT cutS), (20, frameT xcutS), (21, frameT headS), (14, frameT idsQS), (23, frameT xidsS), (19, frameT sameS)]
noncomputable def GP : Nat → Option Vc.Trans := tabG specsP (tget tab) 5
theorem GP_ok : GOK Tryd.prog GP := tabG_ok (GOK.cons (frame_ok first_ok) (GOK.cons (frame_ok new_ok) (GOK.cons (frame_ok is_ok) (GOK.cons (frame_ok push_ok) (GOK.cons (frame_ok xpush_ok) (GOK.cons (openAt_ok (frame_ok done_ok) 1) (GOK.cons (openAt_ok (frame_ok xdone_ok) 1) (GOK.cons (frame_ok pop_ok) (GOK.cons (frame_ok xpop_ok) (GOK.cons (frame_ok cut_ok) (GOK.cons (frame_ok xcut_ok) (GOK.cons (frame_ok head_ok) (GOK.cons (frame_ok idsQ_ok) (GOK.cons (frame_ok xids_ok) (GOK.cons (frame_ok same_ok) .nil))))))))))))))) tab_ok 5
/-- What the buffer is told. -/
structure Do where
  k : Int
  n : Int
  y : Value
  l : List Int
deriving Inhabited
def dck : List CK := [.int .i64, .int .i64, .sl]
def drow (d : Do) : List Value := [.int .i64 d.k, .int .i64 d.n, d.y]
def DosIn (M : HL) (ds : List Do) : Prop := ∀ d ∈ ds, ∃ e, Vc.RowsIn M e [.int .i64] d.y (d.l.map irow)
theorem cell_map {α : Type} (f : α → List Value) (l : List α) (d : α) {i : Nat} (hi : i < l.length) (k : Nat) : cellAt (l.map f) (0 + (i : Int).toNat) k = (f (l.getD i d)).getD k undef := by
  rw [Nat.zero_add, Int.toNat_natCast]
  simp [cellAt, List.getD, hi]
/-- Numbers that grow, all below the next one. -/
def Ord (nx : Int) (L : List (Int × Bool)) : Prop := L.Pairwise (fun a b => a.1 < b.1) ∧ ∀ x ∈ L, 0 ≤ x.1 ∧ x.1 < nx
theorem Ord.push {nx : Int} {L : List (Int × Bool)} (h : Ord nx L) (h0 : 0 ≤ nx) : Ord (nx + 1) (L ++ [(nx, false)]) := by
  refine ⟨List.pairwise_append.2 ⟨h.1, by simp, fun a ha b hb => ?_⟩, fun x hx => ?_⟩
  · obtain rfl : b = (nx, false) := by simpa using hb
    exact (h.2 a ha).2
  · rcases List.mem_append.1 hx with hx | hx
    · have := h.2 x hx; omega
    · obtain rfl : x = (nx, false) := by simpa using hx
      show 0 ≤ nx ∧ nx < nx + 1
      omega
theorem Ord.mark {nx : Int} {L : List (Int × Bool)} (h : Ord nx L) (ids : List Int) : Ord nx (L.map (markA ids)) := by
  refine ⟨List.pairwise_map.2 h.1, fun x hx => ?_⟩
  obtain ⟨y, hy, rfl⟩ := List.mem_map.1 hx
  exact h.2 y hy
theorem Ord.tail {nx : Int} {x : Int × Bool} {L : List (Int × Bool)} (h : Ord nx (x :: L)) : Ord nx L := ⟨(List.pairwise_cons.1 h.1).2, fun y hy => h.2 y (by simp [hy])⟩
theorem Ord.take {nx : Int} {L : List (Int × Bool)} (h : Ord nx L) (m : Nat) : Ord nx (L.take m) := ⟨h.1.sublist (List.take_sublist m L), fun x hx => h.2 x (List.mem_of_mem_take hx)⟩
theorem Ord.lt {nx : Int} {L : List (Int × Bool)} (h : Ord nx L) {i j : Nat} (hij : i < j) (hj : j < L.length) : (L.getD i (0, false)).1 < (L.getD j (0, false)).1 := by
  have := List.pairwise_iff_getElem.1 h.1 i j (by omega) hj hij
  simpa [List.getD, hj, show i < L.length by omega] using this
theorem Ord.nn {nx : Int} {L : List (Int × Bool)} (h : Ord nx L) {i : Nat} (hi : i < L.length) : 0 ≤ (L.getD i (0, false)).1 := by
  have := h.2 (L.getD i (0, false)) (by simp [List.getD, hi])
  exact this.1
theorem Ord.inj {nx : Int} {L : List (Int × Bool)} (h : Ord nx L) {i j : Nat} (hi : i < L.length) (hj : j < L.length) (he : (L.getD i (0, false)).1 = (L.getD j (0, false)).1) : i = j := by
  rcases Nat.lt_trichotomy i j with h1 | h1 | h1
  · have := h.lt h1 hj; omega
  · exact h1
  · have := h.lt h1 hi; omega
theorem cut_cases {nx : Int} {L : List (Int × Bool)} (h : Ord nx L) (id : Int) :
    (id = -1 ∧ ∀ k', IxOK id L k' → k' = -1) ∨ (∃ q : Nat, q < L.length ∧ id ≠ -1 ∧ (∀ k', IxOK id L k' → k' = q) ∧ ∀ k', KeepS id L L.length k' → k' = ((q + 1 : Nat) : Int)) ∨
    (id ≠ -1 ∧ (∀ k', IxOK id L k' → k' = -1) ∧ ∀ k', KeepS id L L.length k' → k' = -1) := by
  by_cases h1 : id = -1
  · refine .inl ⟨h1, fun k' hk => ?_⟩
    rcases hk with ⟨h2, _⟩ | ⟨i, h2, h3, h4, _⟩
    · exact h2
    · have := h.nn h2; omega
  · by_cases h2 : ∃ q : Nat, q < L.length ∧ (L.getD q (0, false)).1 = id
    · obtain ⟨q, hq, he⟩ := h2
      refine .inr (.inl ⟨q, hq, h1, fun k' hk => ?_, fun k' hk => ?_⟩)
      · rcases hk with ⟨_, h3⟩ | ⟨i, h3, h4, h5, _⟩
        · exact absurd he (h3 q hq)
        · rw [h4, h.inj h3 hq (h5.trans he.symm)]
      · rcases hk with ⟨_, h3⟩ | ⟨i, h3, h4, h5, _⟩
        · exact absurd he (h3 q hq)
        · rw [h4, h.inj h3 hq (h5.trans he.symm)]; omega
    · refine .inr (.inr ⟨h1, fun k' hk => ?_, fun k' hk => ?_⟩)
      · rcases hk with ⟨h3, _⟩ | ⟨i, h3, h4, h5, _⟩
        · exact h3
        · exact absurd ⟨i, h3, h5⟩ h2
      · rcases hk with ⟨h3, _⟩ | ⟨i, h3, h4, h5, _⟩
        · exact h3
        · exact absurd ⟨i, h3, h5⟩ h2
theorem hd_cases (L : List (Int × Bool)) : (L = [] ∧ hdV L = .tup [.v (.int .i64 0), .v (.bool false), .v (.bool false)]) ∨ ∃ a b R, L = (a, b) :: R ∧ hdV L = .tup [.v (.int .i64 a), .v (.bool b), .v (.bool true)] := by
  cases L with
  | nil => exact .inl ⟨rfl, rfl⟩
  | cons x R => exact .inr ⟨x.1, x.2, R, rfl, rfl⟩
theorem pop_cases (L : List (Int × Bool)) : (∀ x, L.head? = some x → x.2 = false) ∨ ∃ u R, L = (u, true) :: R := by
  cases L with
  | nil => exact .inl fun x h => by cases h
  | cons x R =>
    obtain ⟨u, b⟩ := x
    cases b with
    | false => exact .inl fun x h => by cases h; rfl
    | true => exact .inr ⟨u, R, rfl⟩
def plHp (e : TypeId) (n : Int) (ds : List Do) (nx : Int) (L post pre post2 : List (Int × Bool)) : List Ent := [.row false e dck (ds.map drow), .cells 56 [.v (.int .i64 n), .v (.int .i64 nx), .slc 2 2 0 L.length], .row true 58 [.int .i64, .bool] ((L ++ post).map orow), .cells 44 [.v (.int .i64 n), .v (.int .i64 nx), .slc 4 2 pre.length L.length], .row true 52 [.int .i64, .bool] ((pre ++ L ++ post2).map orow)]
end Go.Proofs.YthmofpilphfkcaaDoor
