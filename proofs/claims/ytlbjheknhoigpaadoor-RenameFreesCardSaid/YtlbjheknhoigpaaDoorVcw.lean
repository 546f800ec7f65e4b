/-
  What came in, as symbolic values: slices of words.
-/
import Derived.Test.YtlbjheknhoigpaaDoorVcv
import Derived.Test.YtlbjheknhoigpaaDoorVcu
import Derived.ProofKit
import Derived.OpenShut
import Derived.LaidMore
import Derived.Lay
import Derived.SevenTiedAt
import Derived.Stop.Joined
import Derived.Carry
namespace Go.Vc
open Go.ChangeShapes Go.WideShapes Go.ChangeAt Go.RowKit
/-- A slice that came in, by its rows. -/
def SliceIn (w : World) (ck : List CK) (rows : List (List Value)) (v : Value) : Prop :=
  ∃ (x : Loc) (e : TypeId), ∀ (ρ : Nat → Loc) (k : Nat), EntOK (plusN ρ k x) (fun k => w.heap[k]?) w k (.row false e ck rows) ∧ Den (plusN ρ k x) (.slc k ck.length 0 rows.length) v
theorem u32s_in {H : Type} {enc : TypeId × Value → H} {P : Program} {w : World} {t e : TypeId} {v : Value} {d : DataW H} {p : List MemPlace} {b : Nat} (ht : P.underlying t = some (.slice e)) (he : P.underlying e = some (.int .u32)) (hc : P.cellsOf e = 1)
    (hv : Value.okWide P w .any b t v) (h : DataW.Trod enc P w 0 (fun _ => true) true t v d p) : ∃ l : List Nat, (∀ i, l.getD i 0 < 4294967296) ∧ SliceIn w [.int .u32] (l.map wrow) v := by
  obtain ⟨ad, len, cap, rfl⟩ := okWide_slice ht hv
  obtain ⟨fuel, hf⟩ := h
  rcases open_ints ht he hc hf with ⟨hcs, _⟩ | ⟨x, l, c, zs, hcs, _, hl, hm, hz, _, hcell, hwz⟩
  · simp [Value.cells] at hcs
    obtain ⟨rfl, rfl, rfl⟩ := hcs
    exact ⟨[], fun i => by simp [List.getD], none, 0, fun ρ k => nil_in (by simp) ρ k⟩
  · simp [Value.cells] at hcs
    obtain ⟨rfl, rfl, rfl⟩ := hcs
    simp only [if_true] at hz
    have hnn : ∀ z ∈ zs, 0 ≤ z ∧ z < 4294967296 := fun z hz => wf_u32 (hwz z hz)
    have e1 : ((zs.take len).map Int.toNat).map wrow = (zs.map fun z => [Value.int .u32 z]).take len := by
      rw [List.map_map, ← List.map_take]
      refine List.map_congr_left fun z hz => ?_
      have := hnn z (List.mem_of_mem_take hz)
      simp only [Function.comp, wrow]
      rw [Int.toNat_of_nonneg this.1]
    refine ⟨(zs.take len).map Int.toNat, fun i => ?_, ?_⟩
    · by_cases hi : i < ((zs.take len).map Int.toNat).length
      · have hm := List.getElem_mem hi
        have hg : ((zs.take len).map Int.toNat).getD i 0 = ((zs.take len).map Int.toNat)[i] := by rw [List.getD, List.getElem?_eq_getElem hi, Option.getD_some]
        rw [hg]
        obtain ⟨z, hz, hzz⟩ := List.mem_map.1 hm
        have := hnn z (List.mem_of_mem_take hz)
        rw [← hzz]
        omega
      · simp only [List.getD, List.getElem?_eq_none (Nat.le_of_not_lt hi), Option.getD_none]; omega
    · rw [e1]
      obtain ⟨y, ty, hy⟩ := slice_in (w := w) (a := x) (len := len) (cap := cap) (ck := [.int .u32]) (rows := zs.map fun z => [Value.int .u32 z]) (by simp) hl (by simpa using hz) (by simp)
        (fun i f hi hf => by
          obtain rfl : f = 0 := by simpa using hf
          have := hcell i (by omega)
          simp only [List.length_cons, List.length_nil, Nat.zero_add, Nat.mul_one, Nat.add_zero]
          rw [this]
          simp [List.getD, List.getElem?_eq_getElem (show i < zs.length by omega)])
        (fun i f k hi hk => by
          obtain rfl : f = 0 := by have := (List.getElem?_eq_some_iff.1 hk).1; simpa using this
          simp at hk
          subst hk
          simp [List.getD, List.getElem?_eq_getElem (show i < zs.length by omega), CK.fits])
      refine ⟨y, ty, fun ρ k => ?_⟩
      have := hy ρ k
      have hlen : ((zs.map fun z => [Value.int IntKind.u32 z]).take len).length = len := by simp; omega
      rw [hlen]
      exact this
theorem i64s_in {H : Type} {enc : TypeId × Value → H} {P : Program} {w : World} {t e : TypeId} {v : Value} {d : DataW H} {p : List MemPlace} {b : Nat} (ht : P.underlying t = some (.slice e)) (he : P.underlying e = some (.int .i64)) (hc : P.cellsOf e = 1)
    (hv : Value.okWide P w .any b t v) (h : DataW.Trod enc P w 0 (fun _ => true) true t v d p) : ∃ l : List Int, (∀ x ∈ l, -9223372036854775808 ≤ x ∧ x < 9223372036854775808) ∧ SliceIn w [.int .i64] (l.map irow) v := by
  obtain ⟨ad, len, cap, rfl⟩ := okWide_slice ht hv
  obtain ⟨fuel, hf⟩ := h
  rcases open_ints ht he hc hf with ⟨hcs, _⟩ | ⟨x, l, c, zs, hcs, _, hl, hm, hz, _, hcell, hwz⟩
  · simp [Value.cells] at hcs
    obtain ⟨rfl, rfl, rfl⟩ := hcs
    exact ⟨[], by simp, none, 0, fun ρ k => nil_in (by simp) ρ k⟩
  · simp [Value.cells] at hcs
    obtain ⟨rfl, rfl, rfl⟩ := hcs
    simp only [if_true] at hz
    refine ⟨zs.take len, fun z hz => wf_i64 (hwz z (List.mem_of_mem_take hz)), ?_⟩
    obtain ⟨y, ty, hy⟩ := slice_in (w := w) (a := x) (len := len) (cap := cap) (ck := [.int .i64]) (rows := zs.map irow) (by simp) hl (by simpa using hz) (by simp [irow])
      (fun i f hi hf => by
        obtain rfl : f = 0 := by simpa using hf
        have := hcell i (by omega)
        simp only [List.length_cons, List.length_nil, Nat.zero_add, Nat.mul_one, Nat.add_zero]
        rw [this]
        simp [List.getD, List.getElem?_eq_getElem (show i < zs.length by omega), irow])
      (fun i f k hi hk => by
        obtain rfl : f = 0 := by have := (List.getElem?_eq_some_iff.1 hk).1; simpa using this
        simp at hk
        subst hk
        simp [List.getD, List.getElem?_eq_getElem (show i < zs.length by omega), CK.fits, irow])
    refine ⟨y, ty, fun ρ k => ?_⟩
    have := hy ρ k
    have hlen : ((zs.take len).map irow).length = len := by simp; omega
    rw [hlen, List.map_take]
    exact this
/-- A call with one slice that came in. -/
theorem TOK.law1 {P : Program} {f : FuncId} {T : Trans} (h : TOK P f T) {w : World} {ck : List CK} {rows : List (List Value)} {v : Value} (hs : SliceIn w ck rows v) {args : List SV} {vs : List Value}
    (hD : ∀ ρ, Den ρ (.slc 0 ck.length 0 rows.length) v → DenL ρ args vs) (hT : ∀ e, T args [.row false e ck rows] (fun k => w.heap[k]?) fun v _ _ => v = .v (.bool true)) :
    Calls P f vs.toArray w fun e w' => e = .returned (.bool true) ∧ Below w.heap.size w w' := by
  obtain ⟨x, e, hx⟩ := hs
  obtain ⟨h1, h2⟩ := hx (fun _ => none) 0
  exact h.law ((Holds.none w).add (x := x) rfl h1) (hD _ h2) (hT e)
end Go.Vc
