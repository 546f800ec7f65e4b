/-
  Copies of operations: Ints, Op, Ops, walked; the copies' lists are just full.
-/
import Derived.Test.YtkfkoldaeplckaaCh
namespace Go.Proofs.Ytkfkoldaeplckaa
open Go Go.Vc
set_option maxRecDepth 100000
set_option linter.unusedSimpArgs false
set_option linter.unusedVariables false
set_option maxHeartbeats 4000000
theorem ints_run (M : HL) (K : SV → List Ent → HL → Prop) (e : TypeId) (l : List Int) (hl : l.length ≤ 1000)
    (hK : K (.slx 1 1 l.length l.length) [.row false e [.int .i64] (l.map irow), .row true 3 [.int .i64] (l.map irow)] M) :
    runF G0 pf17 [.slc 0 1 0 l.length] [.row false e [.int .i64] (l.map irow)] M fun v hp2 M2 => ∃ m v' hp', Wk (llen [Ent.row false e [.int .i64] (l.map irow)]) m [v] hp2 [v'] hp' (K v' hp' M2) := by
  repeat ((conv => whnf); (first | refine Cnd.yes ?_ | refine Cnd.no ?_ | refine And.intro rfl ?_ | refine And.intro (by omega) ?_ | (refine And.intro ?_ ?_; focus (simp only [IntKind.wrap_i64, IntKind.wrap_u64, IntKind.wrap_u32]; omega)) | (refine And.intro ?_ ?_; focus (simp only [zl1, zl2, zl3, zl4, zl5, zl6, zl7, zl8, zl9] <;> omega)) | (refine Cnd.tt ?_ ?_; focus (first | (apply decide_eq_true; omega) | (simp only [zq1, zq2, zq3, zq4, zq5, zq6, zq7, zq8, zq9, zq10, zq11, zq12] <;> omega) | rfl)) | (refine Cnd.ff ?_ ?_; focus (first | (apply decide_eq_false; omega) | (simp only [zq1, zq2, zq3, zq4, zq5, zq6, zq7, zq8, zq9, zq10, zq11, zq12] <;> omega) | rfl))))
  conv => whnf
  refine Alt.exact ?_
  repeat ((conv => whnf); (first | refine Cnd.yes ?_ | refine Cnd.no ?_ | refine And.intro rfl ?_ | refine And.intro (by omega) ?_ | (refine And.intro ?_ ?_; focus (simp only [IntKind.wrap_i64, IntKind.wrap_u64, IntKind.wrap_u32]; omega)) | (refine And.intro ?_ ?_; focus (simp only [zl1, zl2, zl3, zl4, zl5, zl6, zl7, zl8, zl9] <;> omega)) | refine Alt.std ?_ | (refine Cnd.tt ?_ ?_; focus (first | (apply decide_eq_true; omega) | (simp only [zq1, zq2, zq3, zq4, zq5, zq6, zq7, zq8, zq9, zq10, zq11, zq12] <;> omega) | rfl)) | (refine Cnd.ff ?_ ?_; focus (first | (apply decide_eq_false; omega) | (simp only [zq1, zq2, zq3, zq4, zq5, zq6, zq7, zq8, zq9, zq10, zq11, zq12] <;> omega) | rfl))))
  conv => whnf
  refine ⟨InvS 22 (fun s : Nat => l.length - s) (fun s : Nat => s ≤ l.length) (fun s : Nat => [(0, .slc 0 1 0 l.length), (3, .slx 1 1 s l.length), (4, .v (.int .i64 s))]) (fun s : Nat => [Ent.row false e [.int .i64] (l.map irow), .row true 3 [.int .i64] ((l.take s).map irow)]) M, ⟨(fun s : Nat => l.length - s) 0, [0, 1], tmk 22 0 ((fun s : Nat => [(0, .slc 0 1 0 l.length), (3, .slx 1 1 s l.length), (4, .v (.int .i64 s))]) 0), (fun s : Nat => [Ent.row false e [.int .i64] (l.map irow), .row true 3 [.int .i64] ((l.take s).map irow)]) 0, ?_⟩, ?_⟩
  · repeat ((conv => whnf); (first | refine Cnd.yes ?_ | refine Cnd.no ?_ | refine And.intro rfl ?_ | refine And.intro (by omega) ?_ | (refine And.intro ?_ ?_; focus (simp only [IntKind.wrap_i64, IntKind.wrap_u64, IntKind.wrap_u32]; omega)) | (refine And.intro ?_ ?_; focus (simp only [zl1, zl2, zl3, zl4, zl5, zl6, zl7, zl8, zl9] <;> omega)) | refine Alt.std ?_))
    conv => whnf
    exact ⟨0, Nat.zero_le _, rfl, rfl, (tmkK_eq _ _ _ _).mpr rfl, rfl⟩
  · rintro cnt tm hp M1 ⟨i, hC_, rfl, rfl, htm, hhp_⟩
    replace hC_ : i ≤ l.length := hC_
    have hi := hC_
    replace htm : tmkK 22 0 [(0, .slc 0 1 0 l.length), (3, .slx 1 1 i l.length), (4, .v (.int .i64 i))] (fun l => tm = l) := htm
    conv at htm => whnf
    subst htm
    replace hhp_ : hp = [Ent.row false e [.int .i64] (l.map irow), .row true 3 [.int .i64] ((l.take i).map irow)] := hhp_
    subst hhp_
    repeat ((conv => whnf); (first | refine Cnd.yes ?_ | refine Cnd.no ?_ | refine And.intro rfl ?_ | refine And.intro (by omega) ?_ | (refine And.intro ?_ ?_; focus (simp only [IntKind.wrap_i64, IntKind.wrap_u64, IntKind.wrap_u32]; omega)) | (refine And.intro ?_ ?_; focus (simp only [zl1, zl2, zl3, zl4, zl5, zl6, zl7, zl8, zl9] <;> omega)) | refine Alt.std ?_ | (refine Cnd.tt ?_ ?_; focus (first | (apply decide_eq_true; omega) | (simp only [zq1, zq2, zq3, zq4, zq5, zq6, zq7, zq8, zq9, zq10, zq11, zq12] <;> omega) | rfl)) | (refine Cnd.ff ?_ ?_; focus (first | (apply decide_eq_false; omega) | (simp only [zq1, zq2, zq3, zq4, zq5, zq6, zq7, zq8, zq9, zq10, zq11, zq12] <;> omega) | rfl))))
    conv => whnf
    refine Cnd.mk (fun hlt => ?_) fun hge => ?_
    · have hin : i < l.length := by have := of_decide_eq_true hlt; omega
      have e0 := toI_i hin
      have hti : (l.take i).length = i := by rw [List.length_take]; omega
      have ht : l.take (i + 1) = l.take i ++ [l.getD i 0] := by rw [List.take_succ_eq_append_getElem hin]; simp [List.getD, hin]
      repeat ((conv => whnf); (first | refine Cnd.yes ?_ | refine Cnd.no ?_ | refine And.intro rfl ?_ | refine And.intro (by omega) ?_ | (refine And.intro ?_ ?_; focus (simp only [IntKind.wrap_i64, IntKind.wrap_u64, IntKind.wrap_u32]; omega)) | (refine And.intro ?_ ?_; focus (simp only [zl1, zl2, zl3, zl4, zl5, zl6, zl7, zl8, zl9] <;> omega)) | refine Alt.std ?_ | (refine Cnd.tt ?_ ?_; focus (first | (apply decide_eq_true; omega) | (simp only [zq1, zq2, zq3, zq4, zq5, zq6, zq7, zq8, zq9, zq10, zq11, zq12] <;> omega) | rfl)) | (refine Cnd.ff ?_ ?_; focus (first | (apply decide_eq_false; omega) | (simp only [zq1, zq2, zq3, zq4, zq5, zq6, zq7, zq8, zq9, zq10, zq11, zq12] <;> omega) | rfl))))
      conv => whnf
      rw [e0]
      repeat ((conv => whnf); (first | refine Cnd.yes ?_ | refine Cnd.no ?_ | refine And.intro rfl ?_ | refine And.intro (by omega) ?_ | (refine And.intro ?_ ?_; focus (simp only [IntKind.wrap_i64, IntKind.wrap_u64, IntKind.wrap_u32]; omega)) | (refine And.intro ?_ ?_; focus (simp only [zl1, zl2, zl3, zl4, zl5, zl6, zl7, zl8, zl9] <;> omega)) | refine Alt.std ?_ | (refine Cnd.tt ?_ ?_; focus (first | (apply decide_eq_true; omega) | (simp only [zq1, zq2, zq3, zq4, zq5, zq6, zq7, zq8, zq9, zq10, zq11, zq12] <;> omega) | rfl)) | (refine Cnd.ff ?_ ?_; focus (first | (apply decide_eq_false; omega) | (simp only [zq1, zq2, zq3, zq4, zq5, zq6, zq7, zq8, zq9, zq10, zq11, zq12] <;> omega) | rfl))))
      conv => whnf
      (refine ⟨(fun s : Nat => l.length - s) (i + 1), [0, 3], tmk 22 0 ((fun s : Nat => [(0, .slc 0 1 0 l.length), (3, .slx 1 1 s l.length), (4, .v (.int .i64 s))]) (i + 1)), (fun s : Nat => [Ent.row false e [.int .i64] (l.map irow), .row true 3 [.int .i64] ((l.take s).map irow)]) (i + 1), ?_, ?_⟩; focus (first | (simp only []; omega) | omega))
      repeat ((conv => whnf); (first | refine Cnd.yes ?_ | refine Cnd.no ?_ | refine And.intro rfl ?_ | refine And.intro (by omega) ?_ | (refine And.intro ?_ ?_; focus (simp only [IntKind.wrap_i64, IntKind.wrap_u64, IntKind.wrap_u32]; omega)) | (refine And.intro ?_ ?_; focus (simp only [zl1, zl2, zl3, zl4, zl5, zl6, zl7, zl8, zl9] <;> omega)) | refine Alt.std ?_))
      conv => whnf
      refine ⟨by rw [ht, List.take_of_length_le (by simp; omega), List.map_append (l₁ := l.take i)]; rfl, ?_⟩
      repeat ((conv => whnf); (first | refine Cnd.yes ?_ | refine Cnd.no ?_ | refine And.intro rfl ?_ | refine And.intro (by omega) ?_ | (refine And.intro ?_ ?_; focus (simp only [IntKind.wrap_i64, IntKind.wrap_u64, IntKind.wrap_u32]; omega)) | (refine And.intro ?_ ?_; focus (simp only [zl1, zl2, zl3, zl4, zl5, zl6, zl7, zl8, zl9] <;> omega)) | refine Alt.std ?_))
      conv => whnf
      exact ⟨i + 1, hin, rfl, rfl, (tmkK_eq _ _ _ _).mpr rfl, rfl⟩
    · obtain rfl : i = l.length := by have := of_decide_eq_false hge; omega
      repeat ((conv => whnf); (first | refine Cnd.yes ?_ | refine Cnd.no ?_ | refine And.intro rfl ?_ | refine And.intro (by omega) ?_ | (refine And.intro ?_ ?_; focus (simp only [IntKind.wrap_i64, IntKind.wrap_u64, IntKind.wrap_u32]; omega)) | (refine And.intro ?_ ?_; focus (simp only [zl1, zl2, zl3, zl4, zl5, zl6, zl7, zl8, zl9] <;> omega)) | refine Alt.std ?_ | (refine Cnd.tt ?_ ?_; focus (first | (apply decide_eq_true; omega) | (simp only [zq1, zq2, zq3, zq4, zq5, zq6, zq7, zq8, zq9, zq10, zq11, zq12] <;> omega) | rfl)) | (refine Cnd.ff ?_ ?_; focus (first | (apply decide_eq_false; omega) | (simp only [zq1, zq2, zq3, zq4, zq5, zq6, zq7, zq8, zq9, zq10, zq11, zq12] <;> omega) | rfl))))
      conv => whnf
      refine ⟨[0, 1], .slx 1 1 l.length l.length, [.row false e [.int .i64] (l.map irow), .row true 3 [.int .i64] (l.map irow)], ?_⟩
      repeat ((conv => whnf); (first | refine Cnd.yes ?_ | refine Cnd.no ?_ | refine And.intro rfl ?_ | refine And.intro (by omega) ?_ | (refine And.intro ?_ ?_; focus (simp only [IntKind.wrap_i64, IntKind.wrap_u64, IntKind.wrap_u32]; omega)) | (refine And.intro ?_ ?_; focus (simp only [zl1, zl2, zl3, zl4, zl5, zl6, zl7, zl8, zl9] <;> omega)) | refine Alt.std ?_))
      conv => whnf
      refine ⟨by rw [List.take_length], ?_⟩
      repeat ((conv => whnf); (first | refine Cnd.yes ?_ | refine Cnd.no ?_ | refine And.intro rfl ?_ | refine And.intro (by omega) ?_ | (refine And.intro ?_ ?_; focus (simp only [IntKind.wrap_i64, IntKind.wrap_u64, IntKind.wrap_u32]; omega)) | (refine And.intro ?_ ?_; focus (simp only [zl1, zl2, zl3, zl4, zl5, zl6, zl7, zl8, zl9] <;> omega)) | refine Alt.std ?_))
      conv => whnf
      exact hK
def intsS : Vc.Spec := fun args hp _ K => ∃ (e : TypeId) (l : List Int), args = [.slc 0 1 0 l.length] ∧ hp = [.row false e [.int .i64] (l.map irow)] ∧ l.length ≤ 1000 ∧ K (.slx 1 1 l.length l.length) [.row false e [.int .i64] (l.map irow), .row true 3 [.int .i64] (l.map irow)]
theorem ints_ok : SOK Try.prog 17 intsS := by
  refine TOK.weaken (TOK.out (runF_eq G0_ok mixed at17.1 at17.2 pf17_eq)) fun args hp M K h => ?_
  obtain ⟨e, l, rfl, rfl, h1, h2⟩ := h
  exact ints_run M K e l h1 h2
noncomputable def specsT1 : Nat → Option Vc.Trans := tget [(17, openAtG (frameT intsS) 0)]
noncomputable def GT1 : Nat → Option Vc.Trans := tabG specsT1 (tget tab) 5
theorem GT1_ok : GOK Try.prog GT1 := tabG_ok (GOK.cons (openAtG_ok (frame_ok ints_ok) 0) .nil) tab_ok 5
def osx (x : Op) : List SV := [.v (.int .i64 x.k), .v (.int .i64 x.sz), .v (.int .u32 x.ad), .v (.int .u32 x.v), .v (.int .u32 x.g), .v (.bool x.pr), .v (.bool x.aq), .v (.bool x.rl), .v (.int .i64 x.pd), .v (.int .i64 x.sc), .slx 0 1 x.da.length x.da.length, .slx 1 1 x.dd.length x.dd.length, .slx 2 1 x.dc.length x.dc.length]
theorem op_run (M : HL) (K : SV → List Ent → HL → Prop) (x : Op) (hx : OIn M x) (h1 : x.da.length ≤ 1000) (h2 : x.dd.length ≤ 1000) (h3 : x.dc.length ≤ 1000)
    (hK : K (.agg (osx x)) [.row true 3 [.int .i64] (x.da.map irow), .row true 3 [.int .i64] (x.dd.map irow), .row true 3 [.int .i64] (x.dc.map irow)] M) :
    runF GT1 pf15 [.agg (osv x)] [] M fun v hp2 M2 => ∃ m v' hp', Wk (llen ([] : List Ent)) m [v] hp2 [v'] hp' (K v' hp' M2) := by
  obtain ⟨⟨ea, ha⟩, ⟨ed, hd⟩, ⟨ec, hc⟩⟩ := hx
  repeat ((conv => whnf); (first | refine Cnd.yes ?_ | refine Cnd.no ?_ | refine And.intro rfl ?_ | refine And.intro (by omega) ?_ | (refine And.intro ?_ ?_; focus (simp only [IntKind.wrap_i64, IntKind.wrap_u64, IntKind.wrap_u32]; omega)) | (refine And.intro ?_ ?_; focus (simp only [zl1, zl2, zl3, zl4, zl5, zl6, zl7, zl8, zl9] <;> omega)) | refine Alt.std ?_ | (refine Cnd.tt ?_ ?_; focus (first | (apply decide_eq_true; omega) | (simp only [zq1, zq2, zq3, zq4, zq5, zq6, zq7, zq8, zq9, zq10, zq11, zq12] <;> omega) | rfl)) | (refine Cnd.ff ?_ ?_; focus (first | (apply decide_eq_false; omega) | (simp only [zq1, zq2, zq3, zq4, zq5, zq6, zq7, zq8, zq9, zq10, zq11, zq12] <;> omega) | rfl))))
  conv => whnf
  intro Mr hMr
  repeat ((conv => whnf); (first | refine Cnd.yes ?_ | refine Cnd.no ?_ | refine And.intro rfl ?_ | refine And.intro (by omega) ?_ | (refine And.intro ?_ ?_; focus (simp only [IntKind.wrap_i64, IntKind.wrap_u64, IntKind.wrap_u32]; omega)) | (refine And.intro ?_ ?_; focus (simp only [zl1, zl2, zl3, zl4, zl5, zl6, zl7, zl8, zl9] <;> omega)) | refine Alt.std ?_ | (refine Cnd.tt ?_ ?_; focus (first | (apply decide_eq_true; omega) | (simp only [zq1, zq2, zq3, zq4, zq5, zq6, zq7, zq8, zq9, zq10, zq11, zq12] <;> omega) | rfl)) | (refine Cnd.ff ?_ ?_; focus (first | (apply decide_eq_false; omega) | (simp only [zq1, zq2, zq3, zq4, zq5, zq6, zq7, zq8, zq9, zq10, zq11, zq12] <;> omega) | rfl))))
  conv => whnf
  refine ⟨x.ya, ea, [.int .i64], x.da.map irow, rfl, ha.mono hMr, ?_⟩
  rw [show (x.da.map irow).length = x.da.length from List.length_map ..]
  refine ⟨ea, x.da, rfl, rfl, h1, ?_⟩
  repeat ((conv => whnf); (first | refine Cnd.yes ?_ | refine Cnd.no ?_ | refine And.intro rfl ?_ | refine And.intro (by omega) ?_ | (refine And.intro ?_ ?_; focus (simp only [IntKind.wrap_i64, IntKind.wrap_u64, IntKind.wrap_u32]; omega)) | (refine And.intro ?_ ?_; focus (simp only [zl1, zl2, zl3, zl4, zl5, zl6, zl7, zl8, zl9] <;> omega)) | refine Alt.std ?_ | (refine Cnd.tt ?_ ?_; focus (first | (apply decide_eq_true; omega) | (simp only [zq1, zq2, zq3, zq4, zq5, zq6, zq7, zq8, zq9, zq10, zq11, zq12] <;> omega) | rfl)) | (refine Cnd.ff ?_ ?_; focus (first | (apply decide_eq_false; omega) | (simp only [zq1, zq2, zq3, zq4, zq5, zq6, zq7, zq8, zq9, zq10, zq11, zq12] <;> omega) | rfl))))
  conv => whnf
  intro Mr2 hMr2
  repeat ((conv => whnf); (first | refine Cnd.yes ?_ | refine Cnd.no ?_ | refine And.intro rfl ?_ | refine And.intro (by omega) ?_ | (refine And.intro ?_ ?_; focus (simp only [IntKind.wrap_i64, IntKind.wrap_u64, IntKind.wrap_u32]; omega)) | (refine And.intro ?_ ?_; focus (simp only [zl1, zl2, zl3, zl4, zl5, zl6, zl7, zl8, zl9] <;> omega)) | refine Alt.std ?_ | (refine Cnd.tt ?_ ?_; focus (first | (apply decide_eq_true; omega) | (simp only [zq1, zq2, zq3, zq4, zq5, zq6, zq7, zq8, zq9, zq10, zq11, zq12] <;> omega) | rfl)) | (refine Cnd.ff ?_ ?_; focus (first | (apply decide_eq_false; omega) | (simp only [zq1, zq2, zq3, zq4, zq5, zq6, zq7, zq8, zq9, zq10, zq11, zq12] <;> omega) | rfl))))
  conv => whnf
  refine ⟨x.yd, ed, [.int .i64], x.dd.map irow, rfl, hd.mono hMr2, ?_⟩
  rw [show (x.dd.map irow).length = x.dd.length from List.length_map ..]
  refine ⟨ed, x.dd, rfl, rfl, h2, ?_⟩
  repeat ((conv => whnf); (first | refine Cnd.yes ?_ | refine Cnd.no ?_ | refine And.intro rfl ?_ | refine And.intro (by omega) ?_ | (refine And.intro ?_ ?_; focus (simp only [IntKind.wrap_i64, IntKind.wrap_u64, IntKind.wrap_u32]; omega)) | (refine And.intro ?_ ?_; focus (simp only [zl1, zl2, zl3, zl4, zl5, zl6, zl7, zl8, zl9] <;> omega)) | refine Alt.std ?_ | (refine Cnd.tt ?_ ?_; focus (first | (apply decide_eq_true; omega) | (simp only [zq1, zq2, zq3, zq4, zq5, zq6, zq7, zq8, zq9, zq10, zq11, zq12] <;> omega) | rfl)) | (refine Cnd.ff ?_ ?_; focus (first | (apply decide_eq_false; omega) | (simp only [zq1, zq2, zq3, zq4, zq5, zq6, zq7, zq8, zq9, zq10, zq11, zq12] <;> omega) | rfl))))
  conv => whnf
  intro Mr3 hMr3
  repeat ((conv => whnf); (first | refine Cnd.yes ?_ | refine Cnd.no ?_ | refine And.intro rfl ?_ | refine And.intro (by omega) ?_ | (refine And.intro ?_ ?_; focus (simp only [IntKind.wrap_i64, IntKind.wrap_u64, IntKind.wrap_u32]; omega)) | (refine And.intro ?_ ?_; focus (simp only [zl1, zl2, zl3, zl4, zl5, zl6, zl7, zl8, zl9] <;> omega)) | refine Alt.std ?_ | (refine Cnd.tt ?_ ?_; focus (first | (apply decide_eq_true; omega) | (simp only [zq1, zq2, zq3, zq4, zq5, zq6, zq7, zq8, zq9, zq10, zq11, zq12] <;> omega) | rfl)) | (refine Cnd.ff ?_ ?_; focus (first | (apply decide_eq_false; omega) | (simp only [zq1, zq2, zq3, zq4, zq5, zq6, zq7, zq8, zq9, zq10, zq11, zq12] <;> omega) | rfl))))
  conv => whnf
  refine ⟨x.yc, ec, [.int .i64], x.dc.map irow, rfl, hc.mono hMr3, ?_⟩
  rw [show (x.dc.map irow).length = x.dc.length from List.length_map ..]
  refine ⟨ec, x.dc, rfl, rfl, h3, ?_⟩
  repeat ((conv => whnf); (first | refine Cnd.yes ?_ | refine Cnd.no ?_ | refine And.intro rfl ?_ | refine And.intro (by omega) ?_ | (refine And.intro ?_ ?_; focus (simp only [IntKind.wrap_i64, IntKind.wrap_u64, IntKind.wrap_u32]; omega)) | (refine And.intro ?_ ?_; focus (simp only [zl1, zl2, zl3, zl4, zl5, zl6, zl7, zl8, zl9] <;> omega)) | refine Alt.std ?_ | (refine Cnd.tt ?_ ?_; focus (first | (apply decide_eq_true; omega) | (simp only [zq1, zq2, zq3, zq4, zq5, zq6, zq7, zq8, zq9, zq10, zq11, zq12] <;> omega) | rfl)) | (refine Cnd.ff ?_ ?_; focus (first | (apply decide_eq_false; omega) | (simp only [zq1, zq2, zq3, zq4, zq5, zq6, zq7, zq8, zq9, zq10, zq11, zq12] <;> omega) | rfl))))
  conv => whnf
  refine ⟨[3, 5, 7], .agg (osx x), [.row true 3 [.int .i64] (x.da.map irow), .row true 3 [.int .i64] (x.dd.map irow), .row true 3 [.int .i64] (x.dc.map irow)], ?_⟩
  repeat ((conv => whnf); (first | refine Cnd.yes ?_ | refine Cnd.no ?_ | refine And.intro rfl ?_ | refine And.intro (by omega) ?_ | (refine And.intro ?_ ?_; focus (simp only [IntKind.wrap_i64, IntKind.wrap_u64, IntKind.wrap_u32]; omega)) | (refine And.intro ?_ ?_; focus (simp only [zl1, zl2, zl3, zl4, zl5, zl6, zl7, zl8, zl9] <;> omega)) | refine Alt.std ?_))
  conv => whnf
  exact hK
def opS : Vc.Spec := fun args hp M K => ∃ x : Op, args = [.agg (osv x)] ∧ hp = [] ∧ OIn M x ∧ x.da.length ≤ 1000 ∧ x.dd.length ≤ 1000 ∧ x.dc.length ≤ 1000 ∧
  K (.agg (osx x)) [.row true 3 [.int .i64] (x.da.map irow), .row true 3 [.int .i64] (x.dd.map irow), .row true 3 [.int .i64] (x.dc.map irow)]
theorem op_ok : SOK Try.prog 15 opS := by
  refine TOK.weaken (TOK.out (runF_eq GT1_ok mixed at15.1 at15.2 pf15_eq)) fun args hp M K h => ?_
  obtain ⟨x, rfl, rfl, h1, h2, h3, h4, h5⟩ := h
  exact op_run M K x h1 h2 h3 h4 h5
noncomputable def specsT2 : Nat → Option Vc.Trans := tget [(15, frameT opS)]
noncomputable def GT2 : Nat → Option Vc.Trans := tabG specsT2 (tget tab) 5
theorem GT2_ok : GOK Try.prog GT2 := tabG_ok (GOK.cons (frame_ok op_ok) .nil) tab_ok 5
/-- A list that lies in what stays, and is just full. -/
def Full (M : HL) (y : Value) (l : List Int) : Prop := Vc.RowsIn M 3 [.int .i64] y (l.map irow) ∧ scap y = l.length
theorem Full.mono {M M' : HL} {y : Value} {l : List Int} (h : Full M y l) (hM : FLe M M') : Full M' y l := ⟨h.1.mono hM, h.2⟩
/-- A copy of an operation. -/
structure Copy (M : HL) (x x' : Op) : Prop where
  same : x' = { x with ya := x'.ya, yd := x'.yd, yc := x'.yc }
  a : Full M x'.ya x.da
  d : Full M x'.yd x.dd
  c : Full M x'.yc x.dc
theorem Copy.mono {M M' : HL} {x x' : Op} (h : Copy M x x') (hM : FLe M M') : Copy M' x x' := ⟨h.same, h.a.mono hM, h.d.mono hM, h.c.mono hM⟩
def Copies (M : HL) (l l' : List Op) (n : Nat) : Prop := l'.length = n ∧ ∀ j, j < n → Copy M (l.getD j default) (l'.getD j default)
theorem copies_next {M M' : HL} {l L : List Op} {x' : Op} {i : Nat} (hL : L.length = i) (hC : ∀ j, j < i → Copy M (l.getD j default) (L.getD j default)) (hM : FLe M M') (hx : Copy M' (l.getD i default) x') : Copies M' l (L ++ [x']) (i + 1) := by
  refine ⟨by rw [List.length_append, hL]; rfl, fun j hj => ?_⟩
  rcases Nat.lt_succ_iff_lt_or_eq.1 hj with h | rfl
  · have : (L ++ [x']).getD j default = L.getD j default := by simp [List.getD, List.getElem?_append_left (show j < L.length by omega)]
    rw [this]
    exact (hC j h).mono hM
  · have : (L ++ [x']).getD j default = x' := by simp [List.getD, ← hL]
    rw [this]
    exact hx
theorem ops_run (M : HL) (K : SV → List Ent → HL → Prop) (o : Bool) (e : TypeId) (l : List Op) (hl : l.length ≤ 1000) (hO : ∀ x ∈ l, OIn M x ∧ x.da.length ≤ 1000 ∧ x.dd.length ≤ 1000 ∧ x.dc.length ≤ 1000)
    (hK : ∀ M' l', FLe M M' → Copies M' l l' l.length → K (.slc 1 13 0 l.length) [.row o e ock (l.map orow), .row true 30 ock (l'.map orow)] M') :
    runF GT2 pf11 [.slc 0 13 0 l.length] [.row o e ock (l.map orow)] M fun v hp2 M2 => ∃ m v' hp', Wk (llen [Ent.row o e ock (l.map orow)]) m [v] hp2 [v'] hp' (K v' hp' M2) := by
  repeat ((conv => whnf); (first | refine Cnd.yes ?_ | refine Cnd.no ?_ | refine And.intro rfl ?_ | refine And.intro (by omega) ?_ | (refine And.intro ?_ ?_; focus (simp only [IntKind.wrap_i64, IntKind.wrap_u64, IntKind.wrap_u32]; omega)) | (refine And.intro ?_ ?_; focus (simp only [zl1, zl2, zl3, zl4, zl5, zl6, zl7, zl8, zl9] <;> omega)) | refine Alt.std ?_ | (refine Cnd.tt ?_ ?_; focus (first | (apply decide_eq_true; omega) | (simp only [zq1, zq2, zq3, zq4, zq5, zq6, zq7, zq8, zq9, zq10, zq11, zq12] <;> omega) | rfl)) | (refine Cnd.ff ?_ ?_; focus (first | (apply decide_eq_false; omega) | (simp only [zq1, zq2, zq3, zq4, zq5, zq6, zq7, zq8, zq9, zq10, zq11, zq12] <;> omega) | rfl))))
  conv => whnf
  refine ⟨InvG 23 (fun s : Nat × List Op => l.length - s.1) (fun (s : Nat × List Op) (M2 : HL) => s.1 ≤ l.length ∧ FLe M M2 ∧ Copies M2 l s.2 s.1) (fun s : Nat × List Op => [(0, .slc 0 13 0 l.length), (3, .slc 1 13 0 s.1), (4, .v (.int .i64 s.1))]) (fun s : Nat × List Op => [Ent.row o e ock (l.map orow), .row true 30 ock (s.2.map orow)]), ⟨(fun s : Nat × List Op => l.length - s.1) (0, []), [0, 1], tmk 23 0 ((fun s : Nat × List Op => [(0, .slc 0 13 0 l.length), (3, .slc 1 13 0 s.1), (4, .v (.int .i64 s.1))]) (0, [])), (fun s : Nat × List Op => [Ent.row o e ock (l.map orow), .row true 30 ock (s.2.map orow)]) (0, []), ?_⟩, ?_⟩
  · repeat ((conv => whnf); (first | refine Cnd.yes ?_ | refine Cnd.no ?_ | refine And.intro rfl ?_ | refine And.intro (by omega) ?_ | (refine And.intro ?_ ?_; focus (simp only [IntKind.wrap_i64, IntKind.wrap_u64, IntKind.wrap_u32]; omega)) | (refine And.intro ?_ ?_; focus (simp only [zl1, zl2, zl3, zl4, zl5, zl6, zl7, zl8, zl9] <;> omega)) | refine Alt.std ?_))
    conv => whnf
    exact ⟨(0, []), ⟨Nat.zero_le _, FLe.refl _, rfl, fun j hj => by omega⟩, rfl, (tmkK_eq _ _ _ _).mpr rfl, rfl⟩
  · rintro cnt tm hp M2 ⟨⟨i,L⟩, hC_, rfl, htm, hhp_⟩
    replace hC_ : i ≤ l.length ∧ FLe M M2 ∧ Copies M2 l L i := hC_
    obtain ⟨hi, hM2, hLl, hC⟩ := hC_
    replace htm : tmkK 23 0 [(0, .slc 0 13 0 l.length), (3, .slc 1 13 0 i), (4, .v (.int .i64 i))] (fun l => tm = l) := htm
    conv at htm => whnf
    subst htm
    replace hhp_ : hp = [Ent.row o e ock (l.map orow), .row true 30 ock (L.map orow)] := hhp_
    subst hhp_
    repeat ((conv => whnf); (first | refine Cnd.yes ?_ | refine Cnd.no ?_ | refine And.intro rfl ?_ | refine And.intro (by omega) ?_ | (refine And.intro ?_ ?_; focus (simp only [IntKind.wrap_i64, IntKind.wrap_u64, IntKind.wrap_u32]; omega)) | (refine And.intro ?_ ?_; focus (simp only [zl1, zl2, zl3, zl4, zl5, zl6, zl7, zl8, zl9] <;> omega)) | refine Alt.std ?_ | (refine Cnd.tt ?_ ?_; focus (first | (apply decide_eq_true; omega) | (simp only [zq1, zq2, zq3, zq4, zq5, zq6, zq7, zq8, zq9, zq10, zq11, zq12] <;> omega) | rfl)) | (refine Cnd.ff ?_ ?_; focus (first | (apply decide_eq_false; omega) | (simp only [zq1, zq2, zq3, zq4, zq5, zq6, zq7, zq8, zq9, zq10, zq11, zq12] <;> omega) | rfl))))
    conv => whnf
    refine Cnd.mk (fun hlt => ?_) fun hge => ?_
    · have hin : i < l.length := by have := of_decide_eq_true hlt; omega
      obtain ⟨x, hx⟩ : ∃ x, x = l.getD i default := ⟨_, rfl⟩
      have hOx := hO (l.getD i default) (by simp [List.getD, hin])
      have hc : ∀ k, cellAt (l.map orow) (0 + (i : Int).toNat) k = (orow (l.getD i default)).getD k undef := fun k => by
        rw [Nat.zero_add, Int.toNat_natCast]
        simp [cellAt, List.getD, hin]
      rw [← hx] at hOx hc
      repeat ((conv => whnf); (first | refine Cnd.yes ?_ | refine Cnd.no ?_ | refine And.intro rfl ?_ | refine And.intro (by omega) ?_ | (refine And.intro ?_ ?_; focus (simp only [IntKind.wrap_i64, IntKind.wrap_u64, IntKind.wrap_u32]; omega)) | (refine And.intro ?_ ?_; focus (simp only [zl1, zl2, zl3, zl4, zl5, zl6, zl7, zl8, zl9] <;> omega)) | refine Alt.std ?_ | (refine Cnd.tt ?_ ?_; focus (first | (apply decide_eq_true; omega) | (simp only [zq1, zq2, zq3, zq4, zq5, zq6, zq7, zq8, zq9, zq10, zq11, zq12] <;> omega) | rfl)) | (refine Cnd.ff ?_ ?_; focus (first | (apply decide_eq_false; omega) | (simp only [zq1, zq2, zq3, zq4, zq5, zq6, zq7, zq8, zq9, zq10, zq11, zq12] <;> omega) | rfl))))
      conv => whnf
      refine ⟨x, by simp only [hc]; rfl, rfl, hOx.1.mono hM2, hOx.2.1, hOx.2.2.1, hOx.2.2.2, ?_⟩
      repeat ((conv => whnf); (first | refine Cnd.yes ?_ | refine Cnd.no ?_ | refine And.intro rfl ?_ | refine And.intro (by omega) ?_ | (refine And.intro ?_ ?_; focus (simp only [IntKind.wrap_i64, IntKind.wrap_u64, IntKind.wrap_u32]; omega)) | (refine And.intro ?_ ?_; focus (simp only [zl1, zl2, zl3, zl4, zl5, zl6, zl7, zl8, zl9] <;> omega)) | refine Alt.std ?_ | (refine Cnd.tt ?_ ?_; focus (first | (apply decide_eq_true; omega) | (simp only [zq1, zq2, zq3, zq4, zq5, zq6, zq7, zq8, zq9, zq10, zq11, zq12] <;> omega) | rfl)) | (refine Cnd.ff ?_ ?_; focus (first | (apply decide_eq_false; omega) | (simp only [zq1, zq2, zq3, zq4, zq5, zq6, zq7, zq8, zq9, zq10, zq11, zq12] <;> omega) | rfl))))
      conv => whnf
      intro ya M3 hM3 hRa hca
      repeat ((conv => whnf); (first | refine Cnd.yes ?_ | refine Cnd.no ?_ | refine And.intro rfl ?_ | refine And.intro (by omega) ?_ | (refine And.intro ?_ ?_; focus (simp only [IntKind.wrap_i64, IntKind.wrap_u64, IntKind.wrap_u32]; omega)) | (refine And.intro ?_ ?_; focus (simp only [zl1, zl2, zl3, zl4, zl5, zl6, zl7, zl8, zl9] <;> omega)) | refine Alt.std ?_ | (refine Cnd.tt ?_ ?_; focus (first | (apply decide_eq_true; omega) | (simp only [zq1, zq2, zq3, zq4, zq5, zq6, zq7, zq8, zq9, zq10, zq11, zq12] <;> omega) | rfl)) | (refine Cnd.ff ?_ ?_; focus (first | (apply decide_eq_false; omega) | (simp only [zq1, zq2, zq3, zq4, zq5, zq6, zq7, zq8, zq9, zq10, zq11, zq12] <;> omega) | rfl))))
      conv => whnf
      intro yd M4 hM4 hRd hcd
      repeat ((conv => whnf); (first | refine Cnd.yes ?_ | refine Cnd.no ?_ | refine And.intro rfl ?_ | refine And.intro (by omega) ?_ | (refine And.intro ?_ ?_; focus (simp only [IntKind.wrap_i64, IntKind.wrap_u64, IntKind.wrap_u32]; omega)) | (refine And.intro ?_ ?_; focus (simp only [zl1, zl2, zl3, zl4, zl5, zl6, zl7, zl8, zl9] <;> omega)) | refine Alt.std ?_ | (refine Cnd.tt ?_ ?_; focus (first | (apply decide_eq_true; omega) | (simp only [zq1, zq2, zq3, zq4, zq5, zq6, zq7, zq8, zq9, zq10, zq11, zq12] <;> omega) | rfl)) | (refine Cnd.ff ?_ ?_; focus (first | (apply decide_eq_false; omega) | (simp only [zq1, zq2, zq3, zq4, zq5, zq6, zq7, zq8, zq9, zq10, zq11, zq12] <;> omega) | rfl))))
      conv => whnf
      intro yc M5 hM5 hRc hcc
      repeat ((conv => whnf); (first | refine Cnd.yes ?_ | refine Cnd.no ?_ | refine And.intro rfl ?_ | refine And.intro (by omega) ?_ | (refine And.intro ?_ ?_; focus (simp only [IntKind.wrap_i64, IntKind.wrap_u64, IntKind.wrap_u32]; omega)) | (refine And.intro ?_ ?_; focus (simp only [zl1, zl2, zl3, zl4, zl5, zl6, zl7, zl8, zl9] <;> omega)) | refine Alt.std ?_ | (refine Cnd.tt ?_ ?_; focus (first | (apply decide_eq_true; omega) | (simp only [zq1, zq2, zq3, zq4, zq5, zq6, zq7, zq8, zq9, zq10, zq11, zq12] <;> omega) | rfl)) | (refine Cnd.ff ?_ ?_; focus (first | (apply decide_eq_false; omega) | (simp only [zq1, zq2, zq3, zq4, zq5, zq6, zq7, zq8, zq9, zq10, zq11, zq12] <;> omega) | rfl))))
      conv => whnf
      rw [List.take_of_length_le (by simp)] at hRa hRd hRc
      have hcp : Copy M5 x { x with ya := ya, yd := yd, yc := yc } := ⟨rfl, ⟨hRa.mono (hM4.trans hM5), hca⟩, ⟨hRd.mono hM5, hcd⟩, ⟨hRc, hcc⟩⟩
      have hCs : Copies M5 l (L ++ [{ x with ya := ya, yd := yd, yc := yc }]) (i + 1) := copies_next hLl hC (hM3.trans (hM4.trans hM5)) (by rw [← hx]; exact hcp)
      (refine ⟨(fun s : Nat × List Op => l.length - s.1) ((i + 1, L ++ [{ x with ya := ya, yd := yd, yc := yc }])), [0, 6], tmk 23 0 ((fun s : Nat × List Op => [(0, .slc 0 13 0 l.length), (3, .slc 1 13 0 s.1), (4, .v (.int .i64 s.1))]) ((i + 1, L ++ [{ x with ya := ya, yd := yd, yc := yc }]))), (fun s : Nat × List Op => [Ent.row o e ock (l.map orow), .row true 30 ock (s.2.map orow)]) ((i + 1, L ++ [{ x with ya := ya, yd := yd, yc := yc }])), ?_, ?_⟩; focus (first | (simp only []; omega) | omega))
      repeat ((conv => whnf); (first | refine Cnd.yes ?_ | refine Cnd.no ?_ | refine And.intro rfl ?_ | refine And.intro (by omega) ?_ | (refine And.intro ?_ ?_; focus (simp only [IntKind.wrap_i64, IntKind.wrap_u64, IntKind.wrap_u32]; omega)) | (refine And.intro ?_ ?_; focus (simp only [zl1, zl2, zl3, zl4, zl5, zl6, zl7, zl8, zl9] <;> omega)) | refine Alt.std ?_))
      conv => whnf
      refine ⟨by rw [List.drop_zero, List.take_of_length_le (by rw [List.length_map]; omega), List.map_append]; rfl, ?_⟩
      repeat ((conv => whnf); (first | refine Cnd.yes ?_ | refine Cnd.no ?_ | refine And.intro rfl ?_ | refine And.intro (by omega) ?_ | (refine And.intro ?_ ?_; focus (simp only [IntKind.wrap_i64, IntKind.wrap_u64, IntKind.wrap_u32]; omega)) | (refine And.intro ?_ ?_; focus (simp only [zl1, zl2, zl3, zl4, zl5, zl6, zl7, zl8, zl9] <;> omega)) | refine Alt.std ?_))
      conv => whnf
      exact ⟨(i + 1, L ++ [{ x with ya := ya, yd := yd, yc := yc }]), ⟨hin, hM2.trans (hM3.trans (hM4.trans hM5)), hCs⟩, rfl, (tmkK_eq _ _ _ _).mpr rfl, rfl⟩
    · obtain rfl : i = l.length := by have := of_decide_eq_false hge; omega
      repeat ((conv => whnf); (first | refine Cnd.yes ?_ | refine Cnd.no ?_ | refine And.intro rfl ?_ | refine And.intro (by omega) ?_ | (refine And.intro ?_ ?_; focus (simp only [IntKind.wrap_i64, IntKind.wrap_u64, IntKind.wrap_u32]; omega)) | (refine And.intro ?_ ?_; focus (simp only [zl1, zl2, zl3, zl4, zl5, zl6, zl7, zl8, zl9] <;> omega)) | refine Alt.std ?_ | (refine Cnd.tt ?_ ?_; focus (first | (apply decide_eq_true; omega) | (simp only [zq1, zq2, zq3, zq4, zq5, zq6, zq7, zq8, zq9, zq10, zq11, zq12] <;> omega) | rfl)) | (refine Cnd.ff ?_ ?_; focus (first | (apply decide_eq_false; omega) | (simp only [zq1, zq2, zq3, zq4, zq5, zq6, zq7, zq8, zq9, zq10, zq11, zq12] <;> omega) | rfl))))
      conv => whnf
      refine ⟨[0, 1], .slc 1 13 0 l.length, [.row o e ock (l.map orow), .row true 30 ock (L.map orow)], ?_⟩
      repeat ((conv => whnf); (first | refine Cnd.yes ?_ | refine Cnd.no ?_ | refine And.intro rfl ?_ | refine And.intro (by omega) ?_ | (refine And.intro ?_ ?_; focus (simp only [IntKind.wrap_i64, IntKind.wrap_u64, IntKind.wrap_u32]; omega)) | (refine And.intro ?_ ?_; focus (simp only [zl1, zl2, zl3, zl4, zl5, zl6, zl7, zl8, zl9] <;> omega)) | refine Alt.std ?_))
      conv => whnf
      exact hK _ _ hM2 ⟨hLl, hC⟩
def opsT : Vc.Trans := fun args hp M K => ∃ (o : Bool) (e : TypeId) (l : List Op), args = [.slc 0 13 0 l.length] ∧ hp = [.row o e ock (l.map orow)] ∧ l.length ≤ 1000 ∧ (∀ x ∈ l, OIn M x ∧ x.da.length ≤ 1000 ∧ x.dd.length ≤ 1000 ∧ x.dc.length ≤ 1000) ∧
  ∀ M' l', FLe M M' → Copies M' l l' l.length → K (.slc 1 13 0 l.length) [.row o e ock (l.map orow), .row true 30 ock (l'.map orow)] M'
theorem ops_ok : TOK Try.prog 11 opsT := by
  refine TOK.weaken (TOK.out (runF_eq GT2_ok mixed at11.1 at11.2 pf11_eq)) fun args hp M K h => ?_
  obtain ⟨o, e, l, rfl, rfl, h1, h2, h3⟩ := h
  exact ops_run M K o e l h1 h2 h3
end Go.Proofs.Ytkfkoldaeplckaa
