/-
  The document's net: its Send, walked; its contract.
-/
import Derived.Test.YthomcgclkbmnkaaDoorCm
namespace Go.Proofs.YthomcgclkbmnkaaDoor
open Go Go.Vc
set_option maxRecDepth 100000
set_option linter.unusedSimpArgs false
set_option linter.unusedVariables false
set_option maxHeartbeats 4000000
noncomputable def specsL3 : Nat → Option Vc.Trans := tget [(24, frameT droomS), (25, frameT dclassS), (37, frameT dlinkS)]
noncomputable def GL3 : Nat → Option Vc.Trans := tabG specsL3 (tget tab) 5
theorem GL3_ok : GOK Tryd.prog GL3 := tabG_ok (GOK.cons (frame_ok droom_ok) (GOK.cons (frame_ok dclass_ok) (GOK.cons (frame_ok dlink_ok) .nil))) tab_ok 5
theorem classN_or (k : Int) : classN k = -1 ∨ classN k = 0 ∨ classN k = 1 ∨ classN k = 2 := by unfold classN; repeat (first | omega | split)
theorem w_nx {nx : Int} {i : Nat} (h : 0 ≤ nx ∧ nx ≤ 1000000) (hi : i ≤ 3000) : IntKind.i64.wrap (nx + (i : Int) + 1) = nx + ((i + 1 : Nat) : Int) := by rw [IntKind.wrap_i64]; omega
def sdHp (h r nx : Int) (fl : List Fl) (o : Bool) (e : TypeId) (ms : List Msg) (nx2 : Int) (all : List Fl) : List Ent := docHp true h r nx fl ++ [.row o e mck (ms.map mrow), .cells 38 [.v (.int .i64 0), .v (.slice none 0 0)], .cells 60 [.v (.int .i64 h), .v (.int .i64 r), .v (.int .i64 nx2), .slc 5 12 0 all.length], .row true 64 fck (all.map frow)]
theorem cell_mapm (l : List Msg) {i : Nat} (hi : i < l.length) (k : Nat) : cellAt (l.map mrow) (0 + (i : Int).toNat) k = (mrow (l.getD i default)).getD k undef := cell_map mrow l default hi k
theorem dsend_run (M : HL) (K : SV → List Ent → HL → Prop) (h r nx : Int) (fl : List Fl) (o : Bool) (e : TypeId) (ms : List Msg) (hl : fl.length + ms.length ≤ 3000) (hr : 0 ≤ r ∧ r ≤ 3000) (hn : 0 ≤ nx ∧ nx ≤ 1000000)
    (hK : match sendL h r nx fl 0 ms with
      | .inl (i, p) => K (.agg [.v (.int .i64 (101 + p : Nat)), .slc 3 1 0 1]) (docHp true h r nx fl ++ [.row o e mck (ms.map mrow), .row true 3 [.int .i64] [[.int .i64 i]]]) M
      | .inr all => K (.agg [.v (.int .i64 0), .v (.slice none 0 0)]) [.cells 60 [.v (.int .i64 h), .v (.int .i64 r), .v (.int .i64 (nx + ms.length)), .slc 3 12 0 all.length], .gone, .row o e mck (ms.map mrow), .row true 64 fck (all.map frow)] M) :
    runF GL3 pf20 [.ptr 0 0 0 0, .slc 2 11 0 ms.length] (docHp true h r nx fl ++ [.row o e mck (ms.map mrow)]) M fun v hp2 M2 => ∃ m v' hp', Wk (llen (docHp true h r nx fl ++ [.row o e mck (ms.map mrow)])) m [v] hp2 [v'] hp' (K v' hp' M2) := by
  repeat ((conv => whnf); (first | refine Cnd.yes ?_ | refine Cnd.no ?_ | refine And.intro rfl ?_ | refine And.intro (by omega) ?_ | (refine And.intro ?_ ?_; focus (simp only [IntKind.wrap_i64, IntKind.wrap_u64, IntKind.wrap_u32]; omega)) | (refine And.intro ?_ ?_; focus (simp only [zl1, zl2, zl3, zl4, zl5, zl6, zl7, zl8, zl9] <;> omega)) | refine Alt.std ?_ | (refine Cnd.tt ?_ ?_; focus (first | (apply decide_eq_true; omega) | (simp only [zq1, zq2, zq3, zq4, zq5, zq6, zq7, zq8, zq9, zq10, zq11, zq12] <;> omega) | rfl)) | (refine Cnd.ff ?_ ?_; focus (first | (apply decide_eq_false; omega) | (simp only [zq1, zq2, zq3, zq4, zq5, zq6, zq7, zq8, zq9, zq10, zq11, zq12] <;> omega) | rfl))))
  conv => whnf
  intro Mr hMr
  repeat ((conv => whnf); (first | refine Cnd.yes ?_ | refine Cnd.no ?_ | refine And.intro rfl ?_ | refine And.intro (by omega) ?_ | (refine And.intro ?_ ?_; focus (simp only [IntKind.wrap_i64, IntKind.wrap_u64, IntKind.wrap_u32]; omega)) | (refine And.intro ?_ ?_; focus (simp only [zl1, zl2, zl3, zl4, zl5, zl6, zl7, zl8, zl9] <;> omega)) | refine Alt.std ?_ | (refine Cnd.tt ?_ ?_; focus (first | (apply decide_eq_true; omega) | (simp only [zq1, zq2, zq3, zq4, zq5, zq6, zq7, zq8, zq9, zq10, zq11, zq12] <;> omega) | rfl)) | (refine Cnd.ff ?_ ?_; focus (first | (apply decide_eq_false; omega) | (simp only [zq1, zq2, zq3, zq4, zq5, zq6, zq7, zq8, zq9, zq10, zq11, zq12] <;> omega) | rfl))))
  conv => whnf
  intro Mr2 hMr2
  repeat ((conv => whnf); (first | refine Cnd.yes ?_ | refine Cnd.no ?_ | refine And.intro rfl ?_ | refine And.intro (by omega) ?_ | (refine And.intro ?_ ?_; focus (simp only [IntKind.wrap_i64, IntKind.wrap_u64, IntKind.wrap_u32]; omega)) | (refine And.intro ?_ ?_; focus (simp only [zl1, zl2, zl3, zl4, zl5, zl6, zl7, zl8, zl9] <;> omega)) | refine Alt.std ?_ | (refine Cnd.tt ?_ ?_; focus (first | (apply decide_eq_true; omega) | (simp only [zq1, zq2, zq3, zq4, zq5, zq6, zq7, zq8, zq9, zq10, zq11, zq12] <;> omega) | rfl)) | (refine Cnd.ff ?_ ?_; focus (first | (apply decide_eq_false; omega) | (simp only [zq1, zq2, zq3, zq4, zq5, zq6, zq7, zq8, zq9, zq10, zq11, zq12] <;> omega) | rfl))))
  conv => whnf
  refine ⟨InvS 117 (fun s : Nat × List Fl => ms.length - s.1) (fun s : Nat × List Fl => s.1 ≤ ms.length ∧ s.2.length ≤ fl.length + s.1 ∧ sendL h r nx fl 0 ms = sendL h r nx s.2 s.1 (ms.drop s.1)) (fun s : Nat × List Fl => [(0, .ptr 0 0 0 0), (1, .slc 2 11 0 ms.length), (4, .ptr 3 0 0 0), (5, .ptr 4 0 0 0), (6, .v (.int .i64 s.1))]) (fun s : Nat × List Fl => sdHp h r nx fl o e ms (nx + (s.1 : Nat)) s.2) M, ⟨(fun s : Nat × List Fl => ms.length - s.1) (0, fl), [0, 1, 2, 3, 6, 5], tmk 117 0 ((fun s : Nat × List Fl => [(0, .ptr 0 0 0 0), (1, .slc 2 11 0 ms.length), (4, .ptr 3 0 0 0), (5, .ptr 4 0 0 0), (6, .v (.int .i64 s.1))]) (0, fl)), (fun s : Nat × List Fl => sdHp h r nx fl o e ms (nx + (s.1 : Nat)) s.2) (0, fl), ?_⟩, ?_⟩
  · repeat ((conv => whnf); (first | refine Cnd.yes ?_ | refine Cnd.no ?_ | refine And.intro rfl ?_ | refine And.intro (by omega) ?_ | (refine And.intro ?_ ?_; focus (simp only [IntKind.wrap_i64, IntKind.wrap_u64, IntKind.wrap_u32]; omega)) | (refine And.intro ?_ ?_; focus (simp only [zl1, zl2, zl3, zl4, zl5, zl6, zl7, zl8, zl9] <;> omega)) | refine Alt.std ?_))
    conv => whnf
    refine ⟨by show List.take fl.length (List.drop 0 (fl.map frow)) = fl.map frow; rw [List.drop_zero, List.take_of_length_le (by simp)], ?_⟩
    repeat ((conv => whnf); (first | refine Cnd.yes ?_ | refine Cnd.no ?_ | refine And.intro rfl ?_ | refine And.intro (by omega) ?_ | (refine And.intro ?_ ?_; focus (simp only [IntKind.wrap_i64, IntKind.wrap_u64, IntKind.wrap_u32]; omega)) | (refine And.intro ?_ ?_; focus (simp only [zl1, zl2, zl3, zl4, zl5, zl6, zl7, zl8, zl9] <;> omega)) | refine Alt.std ?_))
    conv => whnf
    exact ⟨(0, fl), ⟨Nat.zero_le _, Nat.le_refl _, rfl⟩, rfl, rfl, (tmkK_eq _ _ _ _).mpr rfl, rfl⟩
  · rintro cnt tm hp M1 ⟨⟨i,all⟩, hC_, rfl, rfl, htm, hhp_⟩
    replace hC_ : i ≤ ms.length ∧ all.length ≤ fl.length + i ∧ sendL h r nx fl 0 ms = sendL h r nx all i (ms.drop i) := hC_
    obtain ⟨hi, hal, hsl⟩ := hC_
    replace htm : tmkK 117 0 [(0, .ptr 0 0 0 0), (1, .slc 2 11 0 ms.length), (4, .ptr 3 0 0 0), (5, .ptr 4 0 0 0), (6, .v (.int .i64 i))] (fun l => tm = l) := htm
    conv at htm => whnf
    subst htm
    replace hhp_ : hp = sdHp h r nx fl o e ms (nx + (i : Nat)) all := hhp_
    subst hhp_
    repeat ((conv => whnf); (first | refine Cnd.yes ?_ | refine Cnd.no ?_ | refine And.intro rfl ?_ | refine And.intro (by omega) ?_ | (refine And.intro ?_ ?_; focus (simp only [IntKind.wrap_i64, IntKind.wrap_u64, IntKind.wrap_u32]; omega)) | (refine And.intro ?_ ?_; focus (simp only [zl1, zl2, zl3, zl4, zl5, zl6, zl7, zl8, zl9] <;> omega)) | refine Alt.std ?_ | (refine Cnd.tt ?_ ?_; focus (first | (apply decide_eq_true; omega) | (simp only [zq1, zq2, zq3, zq4, zq5, zq6, zq7, zq8, zq9, zq10, zq11, zq12] <;> omega) | rfl)) | (refine Cnd.ff ?_ ?_; focus (first | (apply decide_eq_false; omega) | (simp only [zq1, zq2, zq3, zq4, zq5, zq6, zq7, zq8, zq9, zq10, zq11, zq12] <;> omega) | rfl))))
    conv => whnf
    refine Cnd.mk (fun hlt => ?_) fun hge => ?_
    · have hin : i < ms.length := by have := of_decide_eq_true hlt; omega
      have hc := fun k => cell_mapm ms hin k
      rw [List.drop_eq_getElem_cons hin, show ms[i] = ms.getD i default by simp [List.getD, hin]] at hsl
      obtain ⟨m, hm⟩ : ∃ m, m = ms.getD i default := ⟨_, rfl⟩
      rw [← hm] at hsl
      simp only [← hm] at hc
      clear hm
      have hcl := classN_or m.kind
      have hb : badM h r all m = if classN m.kind = -1 then some 1 else if (linkB h m.fr m.to (classN m.kind) = false ∨ m.line < 0) then some 2 else if r ≤ (usedN all m.fr m.to (classN m.kind) : Int) then some 6 else none := rfl
      have hrm : roomN h r all m.fr m.to (classN m.kind) = if linkB h m.fr m.to (classN m.kind) then r - usedN all m.fr m.to (classN m.kind) else 0 := rfl
      have hw := w_nx hn (show i ≤ 3000 by omega)
      obtain ⟨kind, line, xf, xt, d0, d1, d2, d3, b0, b1, b2⟩ := m
      have f0 : toI (cellAt (List.map mrow ms) (0 + (i : Int).toNat) (0)) = kind := by rw [hc]; rfl
      have f1 : toI (cellAt (List.map mrow ms) (0 + (i : Int).toNat) (0 + 1)) = line := by rw [hc]; rfl
      have f2 : toI (cellAt (List.map mrow ms) (0 + (i : Int).toNat) (0 + 1 + 1)) = xf := by rw [hc]; rfl
      have f3 : toI (cellAt (List.map mrow ms) (0 + (i : Int).toNat) (0 + 1 + 1 + 1)) = xt := by rw [hc]; rfl
      have f4 : toI (cellAt (List.map mrow ms) (0 + (i : Int).toNat) (0 + 1 + 1 + 1 + 1)) = d0 := by rw [hc]; rfl
      have f5 : toI (cellAt (List.map mrow ms) (0 + (i : Int).toNat) (0 + 1 + 1 + 1 + 1 + 1)) = d1 := by rw [hc]; rfl
      have f6 : toI (cellAt (List.map mrow ms) (0 + (i : Int).toNat) (0 + 1 + 1 + 1 + 1 + 1 + 1)) = d2 := by rw [hc]; rfl
      have f7 : toI (cellAt (List.map mrow ms) (0 + (i : Int).toNat) (0 + 1 + 1 + 1 + 1 + 1 + 1 + 1)) = d3 := by rw [hc]; rfl
      have f8 : toB (cellAt (List.map mrow ms) (0 + (i : Int).toNat) (0 + 1 + 1 + 1 + 1 + 1 + 1 + 1 + 1)) = b0 := by rw [hc]; rfl
      have f9 : toB (cellAt (List.map mrow ms) (0 + (i : Int).toNat) (0 + 1 + 1 + 1 + 1 + 1 + 1 + 1 + 1 + 1)) = b1 := by rw [hc]; rfl
      have f10 : toB (cellAt (List.map mrow ms) (0 + (i : Int).toNat) (0 + 1 + 1 + 1 + 1 + 1 + 1 + 1 + 1 + 1 + 1)) = b2 := by rw [hc]; rfl
      repeat ((conv => whnf); (first | refine Cnd.yes ?_ | refine Cnd.no ?_ | refine And.intro rfl ?_ | refine And.intro (by omega) ?_ | (refine And.intro ?_ ?_; focus (simp only [IntKind.wrap_i64, IntKind.wrap_u64, IntKind.wrap_u32]; omega)) | (refine And.intro ?_ ?_; focus (simp only [zl1, zl2, zl3, zl4, zl5, zl6, zl7, zl8, zl9] <;> omega)) | refine Alt.std ?_ | (refine Cnd.tt ?_ ?_; focus (first | (apply decide_eq_true; omega) | (simp only [zq1, zq2, zq3, zq4, zq5, zq6, zq7, zq8, zq9, zq10, zq11, zq12] <;> omega) | rfl)) | (refine Cnd.ff ?_ ?_; focus (first | (apply decide_eq_false; omega) | (simp only [zq1, zq2, zq3, zq4, zq5, zq6, zq7, zq8, zq9, zq10, zq11, zq12] <;> omega) | rfl))))
      conv => whnf
      rw [f0, f1, f2, f3, f4, f5, f6, f7, f8, f9, f10]
      clear f0 f1 f2 f3 f4 f5 f6 f7 f8 f9 f10 hc
      refine ⟨kind, rfl, ?_⟩
      by_cases hc1 : classN kind = -1
      · have hbad : badM h r all ⟨kind, line, xf, xt, d0, d1, d2, d3, b0, b1, b2⟩ = some 1 := hb.trans (if_pos hc1)
        have hs : sendL h r nx fl 0 ms = .inl (i, 1) := by rw [hsl]; simp only [sendL, hbad]
        rw [hs] at hK
        repeat ((conv => whnf); (first | refine Cnd.yes ?_ | refine Cnd.no ?_ | refine And.intro rfl ?_ | refine And.intro (by omega) ?_ | (refine And.intro ?_ ?_; focus (simp only [IntKind.wrap_i64, IntKind.wrap_u64, IntKind.wrap_u32]; omega)) | (refine And.intro ?_ ?_; focus (simp only [zl1, zl2, zl3, zl4, zl5, zl6, zl7, zl8, zl9] <;> omega)) | refine Alt.std ?_ | (refine Cnd.tt ?_ ?_; focus (first | (apply decide_eq_true; omega) | (simp only [zq1, zq2, zq3, zq4, zq5, zq6, zq7, zq8, zq9, zq10, zq11, zq12] <;> omega) | rfl)) | (refine Cnd.ff ?_ ?_; focus (first | (apply decide_eq_false; omega) | (simp only [zq1, zq2, zq3, zq4, zq5, zq6, zq7, zq8, zq9, zq10, zq11, zq12] <;> omega) | rfl))))
        conv => whnf
        refine ⟨[0, 1, 2, 8], .agg [.v (.int .i64 (101 + 1 : Nat)), .slc 3 1 0 1], docHp true h r nx fl ++ [.row o e mck (ms.map mrow), .row true 3 [.int .i64] [[.int .i64 i]]], ?_⟩
        repeat ((conv => whnf); (first | refine Cnd.yes ?_ | refine Cnd.no ?_ | refine And.intro rfl ?_ | refine And.intro (by omega) ?_ | (refine And.intro ?_ ?_; focus (simp only [IntKind.wrap_i64, IntKind.wrap_u64, IntKind.wrap_u32]; omega)) | (refine And.intro ?_ ?_; focus (simp only [zl1, zl2, zl3, zl4, zl5, zl6, zl7, zl8, zl9] <;> omega)) | refine Alt.std ?_))
        conv => whnf
        exact hK
      · have hc2 : 0 ≤ classN kind := by rcases hcl with h | h | h | h <;> simp only [] at h <;> omega
        repeat ((conv => whnf); (first | refine Cnd.yes ?_ | refine Cnd.no ?_ | refine And.intro rfl ?_ | refine And.intro (by omega) ?_ | (refine And.intro ?_ ?_; focus (simp only [IntKind.wrap_i64, IntKind.wrap_u64, IntKind.wrap_u32]; omega)) | (refine And.intro ?_ ?_; focus (simp only [zl1, zl2, zl3, zl4, zl5, zl6, zl7, zl8, zl9] <;> omega)) | refine Alt.std ?_ | (refine Cnd.tt ?_ ?_; focus (first | (apply decide_eq_true; omega) | (simp only [zq1, zq2, zq3, zq4, zq5, zq6, zq7, zq8, zq9, zq10, zq11, zq12] <;> omega) | rfl)) | (refine Cnd.ff ?_ ?_; focus (first | (apply decide_eq_false; omega) | (simp only [zq1, zq2, zq3, zq4, zq5, zq6, zq7, zq8, zq9, zq10, zq11, zq12] <;> omega) | rfl))))
        conv => whnf
        refine ⟨true, h, r, nx + i, all, xf, xt, classN kind, rfl, rfl, ?_⟩
        cases hlk : linkB h xf xt (classN kind) with
        | false =>
          have hbad : badM h r all ⟨kind, line, xf, xt, d0, d1, d2, d3, b0, b1, b2⟩ = some 2 := by rw [hb]; simp only [hlk]; rw [if_neg hc1, if_pos (.inl trivial)]
          have hs : sendL h r nx fl 0 ms = .inl (i, 2) := by rw [hsl]; simp only [sendL, hbad]
          rw [hs] at hK
          repeat ((conv => whnf); (first | refine Cnd.yes ?_ | refine Cnd.no ?_ | refine And.intro rfl ?_ | refine And.intro (by omega) ?_ | (refine And.intro ?_ ?_; focus (simp only [IntKind.wrap_i64, IntKind.wrap_u64, IntKind.wrap_u32]; omega)) | (refine And.intro ?_ ?_; focus (simp only [zl1, zl2, zl3, zl4, zl5, zl6, zl7, zl8, zl9] <;> omega)) | refine Alt.std ?_ | (refine Cnd.tt ?_ ?_; focus (first | (apply decide_eq_true; omega) | (simp only [zq1, zq2, zq3, zq4, zq5, zq6, zq7, zq8, zq9, zq10, zq11, zq12] <;> omega) | rfl)) | (refine Cnd.ff ?_ ?_; focus (first | (apply decide_eq_false; omega) | (simp only [zq1, zq2, zq3, zq4, zq5, zq6, zq7, zq8, zq9, zq10, zq11, zq12] <;> omega) | rfl))))
          conv => whnf
          refine ⟨[0, 1, 2, 8], .agg [.v (.int .i64 (101 + 2 : Nat)), .slc 3 1 0 1], docHp true h r nx fl ++ [.row o e mck (ms.map mrow), .row true 3 [.int .i64] [[.int .i64 i]]], ?_⟩
          repeat ((conv => whnf); (first | refine Cnd.yes ?_ | refine Cnd.no ?_ | refine And.intro rfl ?_ | refine And.intro (by omega) ?_ | (refine And.intro ?_ ?_; focus (simp only [IntKind.wrap_i64, IntKind.wrap_u64, IntKind.wrap_u32]; omega)) | (refine And.intro ?_ ?_; focus (simp only [zl1, zl2, zl3, zl4, zl5, zl6, zl7, zl8, zl9] <;> omega)) | refine Alt.std ?_))
          conv => whnf
          exact hK
        | true =>
          by_cases hln : line < 0
          · have hbad : badM h r all ⟨kind, line, xf, xt, d0, d1, d2, d3, b0, b1, b2⟩ = some 2 := by rw [hb]; simp only [hlk]; rw [if_neg hc1, if_pos (.inr hln)]
            have hs : sendL h r nx fl 0 ms = .inl (i, 2) := by rw [hsl]; simp only [sendL, hbad]
            rw [hs] at hK
            repeat ((conv => whnf); (first | refine Cnd.yes ?_ | refine Cnd.no ?_ | refine And.intro rfl ?_ | refine And.intro (by omega) ?_ | (refine And.intro ?_ ?_; focus (simp only [IntKind.wrap_i64, IntKind.wrap_u64, IntKind.wrap_u32]; omega)) | (refine And.intro ?_ ?_; focus (simp only [zl1, zl2, zl3, zl4, zl5, zl6, zl7, zl8, zl9] <;> omega)) | refine Alt.std ?_ | (refine Cnd.tt ?_ ?_; focus (first | (apply decide_eq_true; omega) | (simp only [zq1, zq2, zq3, zq4, zq5, zq6, zq7, zq8, zq9, zq10, zq11, zq12] <;> omega) | rfl)) | (refine Cnd.ff ?_ ?_; focus (first | (apply decide_eq_false; omega) | (simp only [zq1, zq2, zq3, zq4, zq5, zq6, zq7, zq8, zq9, zq10, zq11, zq12] <;> omega) | rfl))))
            conv => whnf
            refine ⟨[0, 1, 2, 8], .agg [.v (.int .i64 (101 + 2 : Nat)), .slc 3 1 0 1], docHp true h r nx fl ++ [.row o e mck (ms.map mrow), .row true 3 [.int .i64] [[.int .i64 i]]], ?_⟩
            repeat ((conv => whnf); (first | refine Cnd.yes ?_ | refine Cnd.no ?_ | refine And.intro rfl ?_ | refine And.intro (by omega) ?_ | (refine And.intro ?_ ?_; focus (simp only [IntKind.wrap_i64, IntKind.wrap_u64, IntKind.wrap_u32]; omega)) | (refine And.intro ?_ ?_; focus (simp only [zl1, zl2, zl3, zl4, zl5, zl6, zl7, zl8, zl9] <;> omega)) | refine Alt.std ?_))
            conv => whnf
            exact hK
          · repeat ((conv => whnf); (first | refine Cnd.yes ?_ | refine Cnd.no ?_ | refine And.intro rfl ?_ | refine And.intro (by omega) ?_ | (refine And.intro ?_ ?_; focus (simp only [IntKind.wrap_i64, IntKind.wrap_u64, IntKind.wrap_u32]; omega)) | (refine And.intro ?_ ?_; focus (simp only [zl1, zl2, zl3, zl4, zl5, zl6, zl7, zl8, zl9] <;> omega)) | refine Alt.std ?_ | (refine Cnd.tt ?_ ?_; focus (first | (apply decide_eq_true; omega) | (simp only [zq1, zq2, zq3, zq4, zq5, zq6, zq7, zq8, zq9, zq10, zq11, zq12] <;> omega) | rfl)) | (refine Cnd.ff ?_ ?_; focus (first | (apply decide_eq_false; omega) | (simp only [zq1, zq2, zq3, zq4, zq5, zq6, zq7, zq8, zq9, zq10, zq11, zq12] <;> omega) | rfl))))
            conv => whnf
            refine ⟨true, h, r, nx + i, all, xf, xt, classN kind, rfl, rfl, by omega, hr, ?_⟩
            rw [show roomN h r all xf xt (classN kind) = r - usedN all xf xt (classN kind) from hrm.trans (if_pos hlk)]
            by_cases hfu : r ≤ (usedN all xf xt (classN kind) : Int)
            · have hbad : badM h r all ⟨kind, line, xf, xt, d0, d1, d2, d3, b0, b1, b2⟩ = some 6 := by rw [hb]; simp only [hlk]; rw [if_neg hc1, if_neg (fun h => h.elim (fun h => by cases h) hln), if_pos hfu]
              have hs : sendL h r nx fl 0 ms = .inl (i, 6) := by rw [hsl]; simp only [sendL, hbad]
              rw [hs] at hK
              repeat ((conv => whnf); (first | refine Cnd.yes ?_ | refine Cnd.no ?_ | refine And.intro rfl ?_ | refine And.intro (by omega) ?_ | (refine And.intro ?_ ?_; focus (simp only [IntKind.wrap_i64, IntKind.wrap_u64, IntKind.wrap_u32]; omega)) | (refine And.intro ?_ ?_; focus (simp only [zl1, zl2, zl3, zl4, zl5, zl6, zl7, zl8, zl9] <;> omega)) | refine Alt.std ?_ | (refine Cnd.tt ?_ ?_; focus (first | (apply decide_eq_true; omega) | (simp only [zq1, zq2, zq3, zq4, zq5, zq6, zq7, zq8, zq9, zq10, zq11, zq12] <;> omega) | rfl)) | (refine Cnd.ff ?_ ?_; focus (first | (apply decide_eq_false; omega) | (simp only [zq1, zq2, zq3, zq4, zq5, zq6, zq7, zq8, zq9, zq10, zq11, zq12] <;> omega) | rfl))))
              conv => whnf
              refine ⟨[0, 1, 2, 8], .agg [.v (.int .i64 (101 + 6 : Nat)), .slc 3 1 0 1], docHp true h r nx fl ++ [.row o e mck (ms.map mrow), .row true 3 [.int .i64] [[.int .i64 i]]], ?_⟩
              repeat ((conv => whnf); (first | refine Cnd.yes ?_ | refine Cnd.no ?_ | refine And.intro rfl ?_ | refine And.intro (by omega) ?_ | (refine And.intro ?_ ?_; focus (simp only [IntKind.wrap_i64, IntKind.wrap_u64, IntKind.wrap_u32]; omega)) | (refine And.intro ?_ ?_; focus (simp only [zl1, zl2, zl3, zl4, zl5, zl6, zl7, zl8, zl9] <;> omega)) | refine Alt.std ?_))
              conv => whnf
              exact hK
            · have hbad : badM h r all ⟨kind, line, xf, xt, d0, d1, d2, d3, b0, b1, b2⟩ = none := by rw [hb]; simp only [hlk]; rw [if_neg hc1, if_neg (fun h => h.elim (fun h => by cases h) hln), if_neg hfu]
              have hs : sendL h r nx fl 0 ms = sendL h r nx (all ++ [(nx + i, ⟨kind, line, xf, xt, d0, d1, d2, d3, b0, b1, b2⟩)]) (i + 1) (ms.drop (i + 1)) := by rw [hsl]; simp only [sendL, hbad]
              repeat ((conv => whnf); (first | refine Cnd.yes ?_ | refine Cnd.no ?_ | refine And.intro rfl ?_ | refine And.intro (by omega) ?_ | (refine And.intro ?_ ?_; focus (simp only [IntKind.wrap_i64, IntKind.wrap_u64, IntKind.wrap_u32]; omega)) | (refine And.intro ?_ ?_; focus (simp only [zl1, zl2, zl3, zl4, zl5, zl6, zl7, zl8, zl9] <;> omega)) | refine Alt.std ?_ | (refine Cnd.tt ?_ ?_; focus (first | (apply decide_eq_true; omega) | (simp only [zq1, zq2, zq3, zq4, zq5, zq6, zq7, zq8, zq9, zq10, zq11, zq12] <;> omega) | rfl)) | (refine Cnd.ff ?_ ?_; focus (first | (apply decide_eq_false; omega) | (simp only [zq1, zq2, zq3, zq4, zq5, zq6, zq7, zq8, zq9, zq10, zq11, zq12] <;> omega) | rfl))))
              conv => whnf
              rw [hw]
              (refine ⟨(fun s : Nat × List Fl => ms.length - s.1) ((i + 1, all ++ [(nx + i, ⟨kind, line, xf, xt, d0, d1, d2, d3, b0, b1, b2⟩)])), [0, 1, 2, 3, 4, 8], tmk 117 0 ((fun s : Nat × List Fl => [(0, .ptr 0 0 0 0), (1, .slc 2 11 0 ms.length), (4, .ptr 3 0 0 0), (5, .ptr 4 0 0 0), (6, .v (.int .i64 s.1))]) ((i + 1, all ++ [(nx + i, ⟨kind, line, xf, xt, d0, d1, d2, d3, b0, b1, b2⟩)]))), (fun s : Nat × List Fl => sdHp h r nx fl o e ms (nx + (s.1 : Nat)) s.2) ((i + 1, all ++ [(nx + i, ⟨kind, line, xf, xt, d0, d1, d2, d3, b0, b1, b2⟩)])), ?_, ?_⟩; focus (first | (simp only []; omega) | omega))
              repeat ((conv => whnf); (first | refine Cnd.yes ?_ | refine Cnd.no ?_ | refine And.intro rfl ?_ | refine And.intro (by omega) ?_ | (refine And.intro ?_ ?_; focus (simp only [IntKind.wrap_i64, IntKind.wrap_u64, IntKind.wrap_u32]; omega)) | (refine And.intro ?_ ?_; focus (simp only [zl1, zl2, zl3, zl4, zl5, zl6, zl7, zl8, zl9] <;> omega)) | refine Alt.std ?_))
              conv => whnf
              refine ⟨by rw [List.drop_zero, List.take_of_length_le (by simp), List.map_append]; rfl, ?_⟩
              repeat ((conv => whnf); (first | refine Cnd.yes ?_ | refine Cnd.no ?_ | refine And.intro rfl ?_ | refine And.intro (by omega) ?_ | (refine And.intro ?_ ?_; focus (simp only [IntKind.wrap_i64, IntKind.wrap_u64, IntKind.wrap_u32]; omega)) | (refine And.intro ?_ ?_; focus (simp only [zl1, zl2, zl3, zl4, zl5, zl6, zl7, zl8, zl9] <;> omega)) | refine Alt.std ?_))
              conv => whnf
              exact ⟨(i + 1, all ++ [(nx + i, ⟨kind, line, xf, xt, d0, d1, d2, d3, b0, b1, b2⟩)]), ⟨hin, by rw [List.length_append]; show all.length + 1 ≤ fl.length + (i + 1); omega, hs⟩, rfl, rfl, (tmkK_eq _ _ _ _).mpr rfl, rfl⟩
    · obtain rfl : i = ms.length := by have := of_decide_eq_false hge; omega
      rw [List.drop_length] at hsl
      rw [hsl] at hK
      simp only [sendL] at hK
      repeat ((conv => whnf); (first | refine Cnd.yes ?_ | refine Cnd.no ?_ | refine And.intro rfl ?_ | refine And.intro (by omega) ?_ | (refine And.intro ?_ ?_; focus (simp only [IntKind.wrap_i64, IntKind.wrap_u64, IntKind.wrap_u32]; omega)) | (refine And.intro ?_ ?_; focus (simp only [zl1, zl2, zl3, zl4, zl5, zl6, zl7, zl8, zl9] <;> omega)) | refine Alt.std ?_ | (refine Cnd.tt ?_ ?_; focus (first | (apply decide_eq_true; omega) | (simp only [zq1, zq2, zq3, zq4, zq5, zq6, zq7, zq8, zq9, zq10, zq11, zq12] <;> omega) | rfl)) | (refine Cnd.ff ?_ ?_; focus (first | (apply decide_eq_false; omega) | (simp only [zq1, zq2, zq3, zq4, zq5, zq6, zq7, zq8, zq9, zq10, zq11, zq12] <;> omega) | rfl))))
      conv => whnf
      refine ⟨[0, 1, 2, 5], .agg [.v (.int .i64 0), .v (.slice none 0 0)], [.cells 60 [.v (.int .i64 h), .v (.int .i64 r), .v (.int .i64 (nx + ms.length)), .slc 3 12 0 all.length], .gone, .row o e mck (ms.map mrow), .row true 64 fck (all.map frow)], ?_⟩
      repeat ((conv => whnf); (first | refine Cnd.yes ?_ | refine Cnd.no ?_ | refine And.intro rfl ?_ | refine And.intro (by omega) ?_ | (refine And.intro ?_ ?_; focus (simp only [IntKind.wrap_i64, IntKind.wrap_u64, IntKind.wrap_u32]; omega)) | (refine And.intro ?_ ?_; focus (simp only [zl1, zl2, zl3, zl4, zl5, zl6, zl7, zl8, zl9] <;> omega)) | refine Alt.std ?_))
      conv => whnf
      exact hK
def dsendS : Vc.Spec := fun args hp M K => ∃ (h r nx : Int) (fl : List Fl) (o : Bool) (e : TypeId) (ms : List Msg), args = [.ptr 0 0 0 0, .slc 2 11 0 ms.length] ∧ hp = docHp true h r nx fl ++ [.row o e mck (ms.map mrow)] ∧ fl.length + ms.length ≤ 3000 ∧ (0 ≤ r ∧ r ≤ 3000) ∧ (0 ≤ nx ∧ nx ≤ 1000000) ∧
  match sendL h r nx fl 0 ms with
      | .inl (i, p) => K (.agg [.v (.int .i64 (101 + p : Nat)), .slc 3 1 0 1]) (docHp true h r nx fl ++ [.row o e mck (ms.map mrow), .row true 3 [.int .i64] [[.int .i64 i]]])
      | .inr all => K (.agg [.v (.int .i64 0), .v (.slice none 0 0)]) [.cells 60 [.v (.int .i64 h), .v (.int .i64 r), .v (.int .i64 (nx + ms.length)), .slc 3 12 0 all.length], .gone, .row o e mck (ms.map mrow), .row true 64 fck (all.map frow)]
theorem dsend_ok : SOK Tryd.prog 20 dsendS := by
  refine TOK.weaken (TOK.out (runF_eq GL3_ok mixed at20.1 at20.2 pf20_eq)) fun args hp M K h => ?_
  obtain ⟨h', r, nx, fl, o, e, ms, rfl, rfl, h1, h2, h3, h4⟩ := h
  refine dsend_run M K h' r nx fl o e ms h1 h2 h3 ?_
  split at h4 <;> exact h4
end Go.Proofs.YthomcgclkbmnkaaDoor
