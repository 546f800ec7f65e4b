/-
  The document's net: its Room, and flights compared: walked; their contracts.
-/
import Derived.Test.YthomcgclkbmnkaaDoorCl
namespace Go.Proofs.YthomcgclkbmnkaaDoor
open Go Go.Vc
set_option maxRecDepth 100000
set_option linter.unusedSimpArgs false
set_option linter.unusedVariables false
set_option maxHeartbeats 4000000
noncomputable def specsL1 : Nat → Option Vc.Trans := tget [(25, frameT dclassS), (37, frameT dlinkS)]
noncomputable def GL1 : Nat → Option Vc.Trans := tabG specsL1 (tget tab) 5
theorem GL1_ok : GOK Tryd.prog GL1 := tabG_ok (GOK.cons (frame_ok dclass_ok) (GOK.cons (frame_ok dlink_ok) .nil)) tab_ok 5
theorem w_sub {r : Int} {u : Nat} (h : 0 ≤ r) (h2 : r ≤ 3000) (h3 : u < 3000) : IntKind.i64.wrap (r - (u : Int) - 1) = r - ((u + 1 : Nat) : Int) := by rw [IntKind.wrap_i64]; omega
theorem droom_runT (M : HL) (K : SV → List Ent → HL → Prop) (h r nx : Int) (l : List Fl) (fr to cl : Int) (hl : l.length ≤ 3000) (hr : 0 ≤ r ∧ r ≤ 3000) (hK : K (.v (.int .i64 (roomN h r l fr to cl))) (docHp true h r nx l) M) :
    runF GL1 pf24 [.ptr 0 0 0 0, .v (.int .i64 fr), .v (.int .i64 to), .v (.int .i64 cl)] (docHp true h r nx l) M fun v hp2 M2 => ∃ m v' hp', Wk (llen (docHp true h r nx l)) m [v] hp2 [v'] hp' (K v' hp' M2) := by
  unfold roomN at hK
  repeat ((conv => whnf); (first | refine Cnd.yes ?_ | refine Cnd.no ?_ | refine And.intro rfl ?_ | refine And.intro (by omega) ?_ | (refine And.intro ?_ ?_; focus (simp only [IntKind.wrap_i64, IntKind.wrap_u64, IntKind.wrap_u32]; omega)) | (refine And.intro ?_ ?_; focus (simp only [zl1, zl2, zl3, zl4, zl5, zl6, zl7, zl8, zl9] <;> omega)) | refine Alt.std ?_ | (refine Cnd.tt ?_ ?_; focus (first | (apply decide_eq_true; omega) | (simp only [zq1, zq2, zq3, zq4, zq5, zq6, zq7, zq8, zq9, zq10, zq11, zq12] <;> omega) | rfl)) | (refine Cnd.ff ?_ ?_; focus (first | (apply decide_eq_false; omega) | (simp only [zq1, zq2, zq3, zq4, zq5, zq6, zq7, zq8, zq9, zq10, zq11, zq12] <;> omega) | rfl))))
  conv => whnf
  refine ⟨true, h, r, nx, l, fr, to, cl, rfl, rfl, ?_⟩
  cases hb : linkB h fr to cl with
  | false =>
    rw [hb, if_neg (by decide)] at hK
    repeat ((conv => whnf); (first | refine Cnd.yes ?_ | refine Cnd.no ?_ | refine And.intro rfl ?_ | refine And.intro (by omega) ?_ | (refine And.intro ?_ ?_; focus (simp only [IntKind.wrap_i64, IntKind.wrap_u64, IntKind.wrap_u32]; omega)) | (refine And.intro ?_ ?_; focus (simp only [zl1, zl2, zl3, zl4, zl5, zl6, zl7, zl8, zl9] <;> omega)) | refine Alt.std ?_ | (refine Cnd.tt ?_ ?_; focus (first | (apply decide_eq_true; omega) | (simp only [zq1, zq2, zq3, zq4, zq5, zq6, zq7, zq8, zq9, zq10, zq11, zq12] <;> omega) | rfl)) | (refine Cnd.ff ?_ ?_; focus (first | (apply decide_eq_false; omega) | (simp only [zq1, zq2, zq3, zq4, zq5, zq6, zq7, zq8, zq9, zq10, zq11, zq12] <;> omega) | rfl))))
    conv => whnf
    refine ⟨[0, 1], .v (.int .i64 0), docHp true h r nx l, ?_⟩
    repeat ((conv => whnf); (first | refine Cnd.yes ?_ | refine Cnd.no ?_ | refine And.intro rfl ?_ | refine And.intro (by omega) ?_ | (refine And.intro ?_ ?_; focus (simp only [IntKind.wrap_i64, IntKind.wrap_u64, IntKind.wrap_u32]; omega)) | (refine And.intro ?_ ?_; focus (simp only [zl1, zl2, zl3, zl4, zl5, zl6, zl7, zl8, zl9] <;> omega)) | refine Alt.std ?_))
    conv => whnf
    exact hK
  | true =>
    rw [hb, if_pos rfl] at hK
    repeat ((conv => whnf); (first | refine Cnd.yes ?_ | refine Cnd.no ?_ | refine And.intro rfl ?_ | refine And.intro (by omega) ?_ | (refine And.intro ?_ ?_; focus (simp only [IntKind.wrap_i64, IntKind.wrap_u64, IntKind.wrap_u32]; omega)) | (refine And.intro ?_ ?_; focus (simp only [zl1, zl2, zl3, zl4, zl5, zl6, zl7, zl8, zl9] <;> omega)) | refine Alt.std ?_ | (refine Cnd.tt ?_ ?_; focus (first | (apply decide_eq_true; omega) | (simp only [zq1, zq2, zq3, zq4, zq5, zq6, zq7, zq8, zq9, zq10, zq11, zq12] <;> omega) | rfl)) | (refine Cnd.ff ?_ ?_; focus (first | (apply decide_eq_false; omega) | (simp only [zq1, zq2, zq3, zq4, zq5, zq6, zq7, zq8, zq9, zq10, zq11, zq12] <;> omega) | rfl))))
    conv => whnf
    refine ⟨InvS 59 (fun s : Nat => l.length - s) (fun s : Nat => s ≤ l.length) (fun s : Nat => [(0, .ptr 0 0 0 0), (1, .v (.int .i64 fr)), (2, .v (.int .i64 to)), (3, .v (.int .i64 cl)), (9, .v (.int .i64 (r - (usedN (l.take s) fr to cl : Nat)))), (10, .v (.int .i64 s))]) (fun s : Nat => docHp true h r nx l) M, ⟨(fun s : Nat => l.length - s) 0, [0, 1], tmk 59 0 ((fun s : Nat => [(0, .ptr 0 0 0 0), (1, .v (.int .i64 fr)), (2, .v (.int .i64 to)), (3, .v (.int .i64 cl)), (9, .v (.int .i64 (r - (usedN (l.take s) fr to cl : Nat)))), (10, .v (.int .i64 s))]) 0), (fun s : Nat => docHp true h r nx l) 0, ?_⟩, ?_⟩
    · repeat ((conv => whnf); (first | refine Cnd.yes ?_ | refine Cnd.no ?_ | refine And.intro rfl ?_ | refine And.intro (by omega) ?_ | (refine And.intro ?_ ?_; focus (simp only [IntKind.wrap_i64, IntKind.wrap_u64, IntKind.wrap_u32]; omega)) | (refine And.intro ?_ ?_; focus (simp only [zl1, zl2, zl3, zl4, zl5, zl6, zl7, zl8, zl9] <;> omega)) | refine Alt.std ?_))
      conv => whnf
      refine ⟨by show r = r - ((0 : Nat) : Int); omega, ?_⟩
      repeat ((conv => whnf); (first | refine Cnd.yes ?_ | refine Cnd.no ?_ | refine And.intro rfl ?_ | refine And.intro (by omega) ?_ | (refine And.intro ?_ ?_; focus (simp only [IntKind.wrap_i64, IntKind.wrap_u64, IntKind.wrap_u32]; omega)) | (refine And.intro ?_ ?_; focus (simp only [zl1, zl2, zl3, zl4, zl5, zl6, zl7, zl8, zl9] <;> omega)) | refine Alt.std ?_))
      conv => whnf
      exact ⟨0, Nat.zero_le _, rfl, rfl, (tmkK_eq _ _ _ _).mpr rfl, rfl⟩
    · rintro cnt tm hp M1 ⟨i, hC_, rfl, rfl, htm, hhp_⟩
      replace hC_ : i ≤ l.length := hC_
      have hi := hC_
      replace htm : tmkK 59 0 [(0, .ptr 0 0 0 0), (1, .v (.int .i64 fr)), (2, .v (.int .i64 to)), (3, .v (.int .i64 cl)), (9, .v (.int .i64 (r - (usedN (l.take i) fr to cl : Nat)))), (10, .v (.int .i64 i))] (fun l => tm = l) := htm
      conv at htm => whnf
      subst htm
      replace hhp_ : hp = docHp true h r nx l := hhp_
      subst hhp_
      have hu := usedN_le (l.take i) fr to cl
      simp only [List.length_take] at hu
      repeat ((conv => whnf); (first | refine Cnd.yes ?_ | refine Cnd.no ?_ | refine And.intro rfl ?_ | refine And.intro (by omega) ?_ | (refine And.intro ?_ ?_; focus (simp only [IntKind.wrap_i64, IntKind.wrap_u64, IntKind.wrap_u32]; omega)) | (refine And.intro ?_ ?_; focus (simp only [zl1, zl2, zl3, zl4, zl5, zl6, zl7, zl8, zl9] <;> omega)) | refine Alt.std ?_ | (refine Cnd.tt ?_ ?_; focus (first | (apply decide_eq_true; omega) | (simp only [zq1, zq2, zq3, zq4, zq5, zq6, zq7, zq8, zq9, zq10, zq11, zq12] <;> omega) | rfl)) | (refine Cnd.ff ?_ ?_; focus (first | (apply decide_eq_false; omega) | (simp only [zq1, zq2, zq3, zq4, zq5, zq6, zq7, zq8, zq9, zq10, zq11, zq12] <;> omega) | rfl))))
      conv => whnf
      refine Cnd.mk (fun hlt => ?_) fun hge => ?_
      · have hin : i < l.length := by have := of_decide_eq_true hlt; omega
        have hnext := usedN_take l fr to cl default hin
        have hw := w_sub (u := usedN (l.take i) fr to cl) hr.1 hr.2 (by omega)
        have hc := fun k => cell_map frow l default hin k
        obtain ⟨x, hx⟩ : ∃ x, x = l.getD i default := ⟨_, rfl⟩
        rw [← hx] at hnext
        simp only [← hx] at hc
        obtain ⟨id, kind, line, xf, xt, d0, d1, d2, d3, b0, b1, b2⟩ := x
        rw [show onLink fr to cl (id, ⟨kind, line, xf, xt, d0, d1, d2, d3, b0, b1, b2⟩) = (xf == fr && (xt == to && classN kind == cl)) from rfl] at hnext
        have hiff : (xf == fr && (xt == to && classN kind == cl)) = true ↔ xf = fr ∧ xt = to ∧ classN kind = cl := by simp
        have f0 : toI (cellAt (List.map frow l) (0 + (i : Int).toNat) (0)) = id := by rw [hc]; rfl
        have f1 : toI (cellAt (List.map frow l) (0 + (i : Int).toNat) (0 + 1)) = kind := by rw [hc]; rfl
        have f2 : toI (cellAt (List.map frow l) (0 + (i : Int).toNat) (0 + 1 + 1)) = line := by rw [hc]; rfl
        have f3 : toI (cellAt (List.map frow l) (0 + (i : Int).toNat) (0 + 1 + 1 + 1)) = xf := by rw [hc]; rfl
        have f4 : toI (cellAt (List.map frow l) (0 + (i : Int).toNat) (0 + 1 + 1 + 1 + 1)) = xt := by rw [hc]; rfl
        have f5 : toI (cellAt (List.map frow l) (0 + (i : Int).toNat) (0 + 1 + 1 + 1 + 1 + 1)) = d0 := by rw [hc]; rfl
        have f6 : toI (cellAt (List.map frow l) (0 + (i : Int).toNat) (0 + 1 + 1 + 1 + 1 + 1 + 1)) = d1 := by rw [hc]; rfl
        have f7 : toI (cellAt (List.map frow l) (0 + (i : Int).toNat) (0 + 1 + 1 + 1 + 1 + 1 + 1 + 1)) = d2 := by rw [hc]; rfl
        have f8 : toI (cellAt (List.map frow l) (0 + (i : Int).toNat) (0 + 1 + 1 + 1 + 1 + 1 + 1 + 1 + 1)) = d3 := by rw [hc]; rfl
        have f9 : toB (cellAt (List.map frow l) (0 + (i : Int).toNat) (0 + 1 + 1 + 1 + 1 + 1 + 1 + 1 + 1 + 1)) = b0 := by rw [hc]; rfl
        have f10 : toB (cellAt (List.map frow l) (0 + (i : Int).toNat) (0 + 1 + 1 + 1 + 1 + 1 + 1 + 1 + 1 + 1 + 1)) = b1 := by rw [hc]; rfl
        have f11 : toB (cellAt (List.map frow l) (0 + (i : Int).toNat) (0 + 1 + 1 + 1 + 1 + 1 + 1 + 1 + 1 + 1 + 1 + 1)) = b2 := by rw [hc]; rfl
        repeat ((conv => whnf); (first | refine Cnd.yes ?_ | refine Cnd.no ?_ | refine And.intro rfl ?_ | refine And.intro (by omega) ?_ | (refine And.intro ?_ ?_; focus (simp only [IntKind.wrap_i64, IntKind.wrap_u64, IntKind.wrap_u32]; omega)) | (refine And.intro ?_ ?_; focus (simp only [zl1, zl2, zl3, zl4, zl5, zl6, zl7, zl8, zl9] <;> omega)) | refine Alt.std ?_ | (refine Cnd.tt ?_ ?_; focus (first | (apply decide_eq_true; omega) | (simp only [zq1, zq2, zq3, zq4, zq5, zq6, zq7, zq8, zq9, zq10, zq11, zq12] <;> omega) | rfl)) | (refine Cnd.ff ?_ ?_; focus (first | (apply decide_eq_false; omega) | (simp only [zq1, zq2, zq3, zq4, zq5, zq6, zq7, zq8, zq9, zq10, zq11, zq12] <;> omega) | rfl))))
        conv => whnf
        rw [f1, f2, f3, f4, f5, f6, f7, f8, f9, f10, f11]
        clear f0 f1 f2 f3 f4 f5 f6 f7 f8 f9 f10 f11 hc
        by_cases h3 : xf = fr
        · by_cases h4 : xt = to
          · repeat ((conv => whnf); (first | refine Cnd.yes ?_ | refine Cnd.no ?_ | refine And.intro rfl ?_ | refine And.intro (by omega) ?_ | (refine And.intro ?_ ?_; focus (simp only [IntKind.wrap_i64, IntKind.wrap_u64, IntKind.wrap_u32]; omega)) | (refine And.intro ?_ ?_; focus (simp only [zl1, zl2, zl3, zl4, zl5, zl6, zl7, zl8, zl9] <;> omega)) | refine Alt.std ?_ | (refine Cnd.tt ?_ ?_; focus (first | (apply decide_eq_true; omega) | (simp only [zq1, zq2, zq3, zq4, zq5, zq6, zq7, zq8, zq9, zq10, zq11, zq12] <;> omega) | rfl)) | (refine Cnd.ff ?_ ?_; focus (first | (apply decide_eq_false; omega) | (simp only [zq1, zq2, zq3, zq4, zq5, zq6, zq7, zq8, zq9, zq10, zq11, zq12] <;> omega) | rfl))))
            conv => whnf
            refine ⟨kind, rfl, ?_⟩
            by_cases h5 : classN kind = cl
            · rw [if_pos (hiff.2 ⟨h3, h4, h5⟩)] at hnext
              repeat ((conv => whnf); (first | refine Cnd.yes ?_ | refine Cnd.no ?_ | refine And.intro rfl ?_ | refine And.intro (by omega) ?_ | (refine And.intro ?_ ?_; focus (simp only [IntKind.wrap_i64, IntKind.wrap_u64, IntKind.wrap_u32]; omega)) | (refine And.intro ?_ ?_; focus (simp only [zl1, zl2, zl3, zl4, zl5, zl6, zl7, zl8, zl9] <;> omega)) | refine Alt.std ?_ | (refine Cnd.tt ?_ ?_; focus (first | (apply decide_eq_true; omega) | (simp only [zq1, zq2, zq3, zq4, zq5, zq6, zq7, zq8, zq9, zq10, zq11, zq12] <;> omega) | rfl)) | (refine Cnd.ff ?_ ?_; focus (first | (apply decide_eq_false; omega) | (simp only [zq1, zq2, zq3, zq4, zq5, zq6, zq7, zq8, zq9, zq10, zq11, zq12] <;> omega) | rfl))))
              conv => whnf
              rw [hw, ← hnext]
              (refine ⟨(fun s : Nat => l.length - s) (i + 1), [0, 1], tmk 59 0 ((fun s : Nat => [(0, .ptr 0 0 0 0), (1, .v (.int .i64 fr)), (2, .v (.int .i64 to)), (3, .v (.int .i64 cl)), (9, .v (.int .i64 (r - (usedN (l.take s) fr to cl : Nat)))), (10, .v (.int .i64 s))]) (i + 1)), (fun s : Nat => docHp true h r nx l) (i + 1), ?_, ?_⟩; focus (first | (simp only []; omega) | omega))
              repeat ((conv => whnf); (first | refine Cnd.yes ?_ | refine Cnd.no ?_ | refine And.intro rfl ?_ | refine And.intro (by omega) ?_ | (refine And.intro ?_ ?_; focus (simp only [IntKind.wrap_i64, IntKind.wrap_u64, IntKind.wrap_u32]; omega)) | (refine And.intro ?_ ?_; focus (simp only [zl1, zl2, zl3, zl4, zl5, zl6, zl7, zl8, zl9] <;> omega)) | refine Alt.std ?_))
              conv => whnf
              exact ⟨i + 1, hin, rfl, rfl, (tmkK_eq _ _ _ _).mpr rfl, rfl⟩
            · rw [if_neg (fun h => h5 (hiff.1 h).2.2)] at hnext
              replace hnext : usedN (l.take (i + 1)) fr to cl = usedN (l.take i) fr to cl := hnext
              repeat ((conv => whnf); (first | refine Cnd.yes ?_ | refine Cnd.no ?_ | refine And.intro rfl ?_ | refine And.intro (by omega) ?_ | (refine And.intro ?_ ?_; focus (simp only [IntKind.wrap_i64, IntKind.wrap_u64, IntKind.wrap_u32]; omega)) | (refine And.intro ?_ ?_; focus (simp only [zl1, zl2, zl3, zl4, zl5, zl6, zl7, zl8, zl9] <;> omega)) | refine Alt.std ?_ | (refine Cnd.tt ?_ ?_; focus (first | (apply decide_eq_true; omega) | (simp only [zq1, zq2, zq3, zq4, zq5, zq6, zq7, zq8, zq9, zq10, zq11, zq12] <;> omega) | rfl)) | (refine Cnd.ff ?_ ?_; focus (first | (apply decide_eq_false; omega) | (simp only [zq1, zq2, zq3, zq4, zq5, zq6, zq7, zq8, zq9, zq10, zq11, zq12] <;> omega) | rfl))))
              conv => whnf
              rw [← hnext]
              (refine ⟨(fun s : Nat => l.length - s) (i + 1), [0, 1], tmk 59 0 ((fun s : Nat => [(0, .ptr 0 0 0 0), (1, .v (.int .i64 fr)), (2, .v (.int .i64 to)), (3, .v (.int .i64 cl)), (9, .v (.int .i64 (r - (usedN (l.take s) fr to cl : Nat)))), (10, .v (.int .i64 s))]) (i + 1)), (fun s : Nat => docHp true h r nx l) (i + 1), ?_, ?_⟩; focus (first | (simp only []; omega) | omega))
              repeat ((conv => whnf); (first | refine Cnd.yes ?_ | refine Cnd.no ?_ | refine And.intro rfl ?_ | refine And.intro (by omega) ?_ | (refine And.intro ?_ ?_; focus (simp only [IntKind.wrap_i64, IntKind.wrap_u64, IntKind.wrap_u32]; omega)) | (refine And.intro ?_ ?_; focus (simp only [zl1, zl2, zl3, zl4, zl5, zl6, zl7, zl8, zl9] <;> omega)) | refine Alt.std ?_))
              conv => whnf
              exact ⟨i + 1, hin, rfl, rfl, (tmkK_eq _ _ _ _).mpr rfl, rfl⟩
          · rw [if_neg (fun h => h4 (hiff.1 h).2.1)] at hnext
            replace hnext : usedN (l.take (i + 1)) fr to cl = usedN (l.take i) fr to cl := hnext
            repeat ((conv => whnf); (first | refine Cnd.yes ?_ | refine Cnd.no ?_ | refine And.intro rfl ?_ | refine And.intro (by omega) ?_ | (refine And.intro ?_ ?_; focus (simp only [IntKind.wrap_i64, IntKind.wrap_u64, IntKind.wrap_u32]; omega)) | (refine And.intro ?_ ?_; focus (simp only [zl1, zl2, zl3, zl4, zl5, zl6, zl7, zl8, zl9] <;> omega)) | refine Alt.std ?_ | (refine Cnd.tt ?_ ?_; focus (first | (apply decide_eq_true; omega) | (simp only [zq1, zq2, zq3, zq4, zq5, zq6, zq7, zq8, zq9, zq10, zq11, zq12] <;> omega) | rfl)) | (refine Cnd.ff ?_ ?_; focus (first | (apply decide_eq_false; omega) | (simp only [zq1, zq2, zq3, zq4, zq5, zq6, zq7, zq8, zq9, zq10, zq11, zq12] <;> omega) | rfl))))
            conv => whnf
            rw [← hnext]
            (refine ⟨(fun s : Nat => l.length - s) (i + 1), [0, 1], tmk 59 0 ((fun s : Nat => [(0, .ptr 0 0 0 0), (1, .v (.int .i64 fr)), (2, .v (.int .i64 to)), (3, .v (.int .i64 cl)), (9, .v (.int .i64 (r - (usedN (l.take s) fr to cl : Nat)))), (10, .v (.int .i64 s))]) (i + 1)), (fun s : Nat => docHp true h r nx l) (i + 1), ?_, ?_⟩; focus (first | (simp only []; omega) | omega))
            repeat ((conv => whnf); (first | refine Cnd.yes ?_ | refine Cnd.no ?_ | refine And.intro rfl ?_ | refine And.intro (by omega) ?_ | (refine And.intro ?_ ?_; focus (simp only [IntKind.wrap_i64, IntKind.wrap_u64, IntKind.wrap_u32]; omega)) | (refine And.intro ?_ ?_; focus (simp only [zl1, zl2, zl3, zl4, zl5, zl6, zl7, zl8, zl9] <;> omega)) | refine Alt.std ?_))
            conv => whnf
            exact ⟨i + 1, hin, rfl, rfl, (tmkK_eq _ _ _ _).mpr rfl, rfl⟩
        · rw [if_neg (fun h => h3 (hiff.1 h).1)] at hnext
          replace hnext : usedN (l.take (i + 1)) fr to cl = usedN (l.take i) fr to cl := hnext
          repeat ((conv => whnf); (first | refine Cnd.yes ?_ | refine Cnd.no ?_ | refine And.intro rfl ?_ | refine And.intro (by omega) ?_ | (refine And.intro ?_ ?_; focus (simp only [IntKind.wrap_i64, IntKind.wrap_u64, IntKind.wrap_u32]; omega)) | (refine And.intro ?_ ?_; focus (simp only [zl1, zl2, zl3, zl4, zl5, zl6, zl7, zl8, zl9] <;> omega)) | refine Alt.std ?_ | (refine Cnd.tt ?_ ?_; focus (first | (apply decide_eq_true; omega) | (simp only [zq1, zq2, zq3, zq4, zq5, zq6, zq7, zq8, zq9, zq10, zq11, zq12] <;> omega) | rfl)) | (refine Cnd.ff ?_ ?_; focus (first | (apply decide_eq_false; omega) | (simp only [zq1, zq2, zq3, zq4, zq5, zq6, zq7, zq8, zq9, zq10, zq11, zq12] <;> omega) | rfl))))
          conv => whnf
          rw [← hnext]
          (refine ⟨(fun s : Nat => l.length - s) (i + 1), [0, 1], tmk 59 0 ((fun s : Nat => [(0, .ptr 0 0 0 0), (1, .v (.int .i64 fr)), (2, .v (.int .i64 to)), (3, .v (.int .i64 cl)), (9, .v (.int .i64 (r - (usedN (l.take s) fr to cl : Nat)))), (10, .v (.int .i64 s))]) (i + 1)), (fun s : Nat => docHp true h r nx l) (i + 1), ?_, ?_⟩; focus (first | (simp only []; omega) | omega))
          repeat ((conv => whnf); (first | refine Cnd.yes ?_ | refine Cnd.no ?_ | refine And.intro rfl ?_ | refine And.intro (by omega) ?_ | (refine And.intro ?_ ?_; focus (simp only [IntKind.wrap_i64, IntKind.wrap_u64, IntKind.wrap_u32]; omega)) | (refine And.intro ?_ ?_; focus (simp only [zl1, zl2, zl3, zl4, zl5, zl6, zl7, zl8, zl9] <;> omega)) | refine Alt.std ?_))
          conv => whnf
          exact ⟨i + 1, hin, rfl, rfl, (tmkK_eq _ _ _ _).mpr rfl, rfl⟩
      · obtain rfl : i = l.length := by have := of_decide_eq_false hge; omega
        repeat ((conv => whnf); (first | refine Cnd.yes ?_ | refine Cnd.no ?_ | refine And.intro rfl ?_ | refine And.intro (by omega) ?_ | (refine And.intro ?_ ?_; focus (simp only [IntKind.wrap_i64, IntKind.wrap_u64, IntKind.wrap_u32]; omega)) | (refine And.intro ?_ ?_; focus (simp only [zl1, zl2, zl3, zl4, zl5, zl6, zl7, zl8, zl9] <;> omega)) | refine Alt.std ?_ | (refine Cnd.tt ?_ ?_; focus (first | (apply decide_eq_true; omega) | (simp only [zq1, zq2, zq3, zq4, zq5, zq6, zq7, zq8, zq9, zq10, zq11, zq12] <;> omega) | rfl)) | (refine Cnd.ff ?_ ?_; focus (first | (apply decide_eq_false; omega) | (simp only [zq1, zq2, zq3, zq4, zq5, zq6, zq7, zq8, zq9, zq10, zq11, zq12] <;> omega) | rfl))))
        conv => whnf
        refine ⟨[0, 1], .v (.int .i64 (r - (usedN l fr to cl : Nat))), docHp true h r nx l, ?_⟩
        repeat ((conv => whnf); (first | refine Cnd.yes ?_ | refine Cnd.no ?_ | refine And.intro rfl ?_ | refine And.intro (by omega) ?_ | (refine And.intro ?_ ?_; focus (simp only [IntKind.wrap_i64, IntKind.wrap_u64, IntKind.wrap_u32]; omega)) | (refine And.intro ?_ ?_; focus (simp only [zl1, zl2, zl3, zl4, zl5, zl6, zl7, zl8, zl9] <;> omega)) | refine Alt.std ?_))
        conv => whnf
        refine ⟨by rw [List.take_length], ?_⟩
        repeat ((conv => whnf); (first | refine Cnd.yes ?_ | refine Cnd.no ?_ | refine And.intro rfl ?_ | refine And.intro (by omega) ?_ | (refine And.intro ?_ ?_; focus (simp only [IntKind.wrap_i64, IntKind.wrap_u64, IntKind.wrap_u32]; omega)) | (refine And.intro ?_ ?_; focus (simp only [zl1, zl2, zl3, zl4, zl5, zl6, zl7, zl8, zl9] <;> omega)) | refine Alt.std ?_))
        conv => whnf
        exact hK
theorem droom_runF (M : HL) (K : SV → List Ent → HL → Prop) (h r nx : Int) (l : List Fl) (fr to cl : Int) (hl : l.length ≤ 3000) (hr : 0 ≤ r ∧ r ≤ 3000) (hK : K (.v (.int .i64 (roomN h r l fr to cl))) (docHp false h r nx l) M) :
    runF GL1 pf24 [.ptr 0 0 0 0, .v (.int .i64 fr), .v (.int .i64 to), .v (.int .i64 cl)] (docHp false h r nx l) M fun v hp2 M2 => ∃ m v' hp', Wk (llen (docHp false h r nx l)) m [v] hp2 [v'] hp' (K v' hp' M2) := by
  unfold roomN at hK
  repeat ((conv => whnf); (first | refine Cnd.yes ?_ | refine Cnd.no ?_ | refine And.intro rfl ?_ | refine And.intro (by omega) ?_ | (refine And.intro ?_ ?_; focus (simp only [IntKind.wrap_i64, IntKind.wrap_u64, IntKind.wrap_u32]; omega)) | (refine And.intro ?_ ?_; focus (simp only [zl1, zl2, zl3, zl4, zl5, zl6, zl7, zl8, zl9] <;> omega)) | refine Alt.std ?_ | (refine Cnd.tt ?_ ?_; focus (first | (apply decide_eq_true; omega) | (simp only [zq1, zq2, zq3, zq4, zq5, zq6, zq7, zq8, zq9, zq10, zq11, zq12] <;> omega) | rfl)) | (refine Cnd.ff ?_ ?_; focus (first | (apply decide_eq_false; omega) | (simp only [zq1, zq2, zq3, zq4, zq5, zq6, zq7, zq8, zq9, zq10, zq11, zq12] <;> omega) | rfl))))
  conv => whnf
  refine ⟨false, h, r, nx, l, fr, to, cl, rfl, rfl, ?_⟩
  cases hb : linkB h fr to cl with
  | false =>
    rw [hb, if_neg (by decide)] at hK
    repeat ((conv => whnf); (first | refine Cnd.yes ?_ | refine Cnd.no ?_ | refine And.intro rfl ?_ | refine And.intro (by omega) ?_ | (refine And.intro ?_ ?_; focus (simp only [IntKind.wrap_i64, IntKind.wrap_u64, IntKind.wrap_u32]; omega)) | (refine And.intro ?_ ?_; focus (simp only [zl1, zl2, zl3, zl4, zl5, zl6, zl7, zl8, zl9] <;> omega)) | refine Alt.std ?_ | (refine Cnd.tt ?_ ?_; focus (first | (apply decide_eq_true; omega) | (simp only [zq1, zq2, zq3, zq4, zq5, zq6, zq7, zq8, zq9, zq10, zq11, zq12] <;> omega) | rfl)) | (refine Cnd.ff ?_ ?_; focus (first | (apply decide_eq_false; omega) | (simp only [zq1, zq2, zq3, zq4, zq5, zq6, zq7, zq8, zq9, zq10, zq11, zq12] <;> omega) | rfl))))
    conv => whnf
    refine ⟨[0, 1], .v (.int .i64 0), docHp false h r nx l, ?_⟩
    repeat ((conv => whnf); (first | refine Cnd.yes ?_ | refine Cnd.no ?_ | refine And.intro rfl ?_ | refine And.intro (by omega) ?_ | (refine And.intro ?_ ?_; focus (simp only [IntKind.wrap_i64, IntKind.wrap_u64, IntKind.wrap_u32]; omega)) | (refine And.intro ?_ ?_; focus (simp only [zl1, zl2, zl3, zl4, zl5, zl6, zl7, zl8, zl9] <;> omega)) | refine Alt.std ?_))
    conv => whnf
    exact hK
  | true =>
    rw [hb, if_pos rfl] at hK
    repeat ((conv => whnf); (first | refine Cnd.yes ?_ | refine Cnd.no ?_ | refine And.intro rfl ?_ | refine And.intro (by omega) ?_ | (refine And.intro ?_ ?_; focus (simp only [IntKind.wrap_i64, IntKind.wrap_u64, IntKind.wrap_u32]; omega)) | (refine And.intro ?_ ?_; focus (simp only [zl1, zl2, zl3, zl4, zl5, zl6, zl7, zl8, zl9] <;> omega)) | refine Alt.std ?_ | (refine Cnd.tt ?_ ?_; focus (first | (apply decide_eq_true; omega) | (simp only [zq1, zq2, zq3, zq4, zq5, zq6, zq7, zq8, zq9, zq10, zq11, zq12] <;> omega) | rfl)) | (refine Cnd.ff ?_ ?_; focus (first | (apply decide_eq_false; omega) | (simp only [zq1, zq2, zq3, zq4, zq5, zq6, zq7, zq8, zq9, zq10, zq11, zq12] <;> omega) | rfl))))
    conv => whnf
    refine ⟨InvS 59 (fun s : Nat => l.length - s) (fun s : Nat => s ≤ l.length) (fun s : Nat => [(0, .ptr 0 0 0 0), (1, .v (.int .i64 fr)), (2, .v (.int .i64 to)), (3, .v (.int .i64 cl)), (9, .v (.int .i64 (r - (usedN (l.take s) fr to cl : Nat)))), (10, .v (.int .i64 s))]) (fun s : Nat => docHp false h r nx l) M, ⟨(fun s : Nat => l.length - s) 0, [0, 1], tmk 59 0 ((fun s : Nat => [(0, .ptr 0 0 0 0), (1, .v (.int .i64 fr)), (2, .v (.int .i64 to)), (3, .v (.int .i64 cl)), (9, .v (.int .i64 (r - (usedN (l.take s) fr to cl : Nat)))), (10, .v (.int .i64 s))]) 0), (fun s : Nat => docHp false h r nx l) 0, ?_⟩, ?_⟩
    · repeat ((conv => whnf); (first | refine Cnd.yes ?_ | refine Cnd.no ?_ | refine And.intro rfl ?_ | refine And.intro (by omega) ?_ | (refine And.intro ?_ ?_; focus (simp only [IntKind.wrap_i64, IntKind.wrap_u64, IntKind.wrap_u32]; omega)) | (refine And.intro ?_ ?_; focus (simp only [zl1, zl2, zl3, zl4, zl5, zl6, zl7, zl8, zl9] <;> omega)) | refine Alt.std ?_))
      conv => whnf
      refine ⟨by show r = r - ((0 : Nat) : Int); omega, ?_⟩
      repeat ((conv => whnf); (first | refine Cnd.yes ?_ | refine Cnd.no ?_ | refine And.intro rfl ?_ | refine And.intro (by omega) ?_ | (refine And.intro ?_ ?_; focus (simp only [IntKind.wrap_i64, IntKind.wrap_u64, IntKind.wrap_u32]; omega)) | (refine And.intro ?_ ?_; focus (simp only [zl1, zl2, zl3, zl4, zl5, zl6, zl7, zl8, zl9] <;> omega)) | refine Alt.std ?_))
      conv => whnf
      exact ⟨0, Nat.zero_le _, rfl, rfl, (tmkK_eq _ _ _ _).mpr rfl, rfl⟩
    · rintro cnt tm hp M1 ⟨i, hC_, rfl, rfl, htm, hhp_⟩
      replace hC_ : i ≤ l.length := hC_
      have hi := hC_
      replace htm : tmkK 59 0 [(0, .ptr 0 0 0 0), (1, .v (.int .i64 fr)), (2, .v (.int .i64 to)), (3, .v (.int .i64 cl)), (9, .v (.int .i64 (r - (usedN (l.take i) fr to cl : Nat)))), (10, .v (.int .i64 i))] (fun l => tm = l) := htm
      conv at htm => whnf
      subst htm
      replace hhp_ : hp = docHp false h r nx l := hhp_
      subst hhp_
      have hu := usedN_le (l.take i) fr to cl
      simp only [List.length_take] at hu
      repeat ((conv => whnf); (first | refine Cnd.yes ?_ | refine Cnd.no ?_ | refine And.intro rfl ?_ | refine And.intro (by omega) ?_ | (refine And.intro ?_ ?_; focus (simp only [IntKind.wrap_i64, IntKind.wrap_u64, IntKind.wrap_u32]; omega)) | (refine And.intro ?_ ?_; focus (simp only [zl1, zl2, zl3, zl4, zl5, zl6, zl7, zl8, zl9] <;> omega)) | refine Alt.std ?_ | (refine Cnd.tt ?_ ?_; focus (first | (apply decide_eq_true; omega) | (simp only [zq1, zq2, zq3, zq4, zq5, zq6, zq7, zq8, zq9, zq10, zq11, zq12] <;> omega) | rfl)) | (refine Cnd.ff ?_ ?_; focus (first | (apply decide_eq_false; omega) | (simp only [zq1, zq2, zq3, zq4, zq5, zq6, zq7, zq8, zq9, zq10, zq11, zq12] <;> omega) | rfl))))
      conv => whnf
      refine Cnd.mk (fun hlt => ?_) fun hge => ?_
      · have hin : i < l.length := by have := of_decide_eq_true hlt; omega
        have hnext := usedN_take l fr to cl default hin
        have hw := w_sub (u := usedN (l.take i) fr to cl) hr.1 hr.2 (by omega)
        have hc := fun k => cell_map frow l default hin k
        obtain ⟨x, hx⟩ : ∃ x, x = l.getD i default := ⟨_, rfl⟩
        rw [← hx] at hnext
        simp only [← hx] at hc
        obtain ⟨id, kind, line, xf, xt, d0, d1, d2, d3, b0, b1, b2⟩ := x
        rw [show onLink fr to cl (id, ⟨kind, line, xf, xt, d0, d1, d2, d3, b0, b1, b2⟩) = (xf == fr && (xt == to && classN kind == cl)) from rfl] at hnext
        have hiff : (xf == fr && (xt == to && classN kind == cl)) = true ↔ xf = fr ∧ xt = to ∧ classN kind = cl := by simp
        have f0 : toI (cellAt (List.map frow l) (0 + (i : Int).toNat) (0)) = id := by rw [hc]; rfl
        have f1 : toI (cellAt (List.map frow l) (0 + (i : Int).toNat) (0 + 1)) = kind := by rw [hc]; rfl
        have f2 : toI (cellAt (List.map frow l) (0 + (i : Int).toNat) (0 + 1 + 1)) = line := by rw [hc]; rfl
        have f3 : toI (cellAt (List.map frow l) (0 + (i : Int).toNat) (0 + 1 + 1 + 1)) = xf := by rw [hc]; rfl
        have f4 : toI (cellAt (List.map frow l) (0 + (i : Int).toNat) (0 + 1 + 1 + 1 + 1)) = xt := by rw [hc]; rfl
        have f5 : toI (cellAt (List.map frow l) (0 + (i : Int).toNat) (0 + 1 + 1 + 1 + 1 + 1)) = d0 := by rw [hc]; rfl
        have f6 : toI (cellAt (List.map frow l) (0 + (i : Int).toNat) (0 + 1 + 1 + 1 + 1 + 1 + 1)) = d1 := by rw [hc]; rfl
        have f7 : toI (cellAt (List.map frow l) (0 + (i : Int).toNat) (0 + 1 + 1 + 1 + 1 + 1 + 1 + 1)) = d2 := by rw [hc]; rfl
        have f8 : toI (cellAt (List.map frow l) (0 + (i : Int).toNat) (0 + 1 + 1 + 1 + 1 + 1 + 1 + 1 + 1)) = d3 := by rw [hc]; rfl
        have f9 : toB (cellAt (List.map frow l) (0 + (i : Int).toNat) (0 + 1 + 1 + 1 + 1 + 1 + 1 + 1 + 1 + 1)) = b0 := by rw [hc]; rfl
        have f10 : toB (cellAt (List.map frow l) (0 + (i : Int).toNat) (0 + 1 + 1 + 1 + 1 + 1 + 1 + 1 + 1 + 1 + 1)) = b1 := by rw [hc]; rfl
        have f11 : toB (cellAt (List.map frow l) (0 + (i : Int).toNat) (0 + 1 + 1 + 1 + 1 + 1 + 1 + 1 + 1 + 1 + 1 + 1)) = b2 := by rw [hc]; rfl
        repeat ((conv => whnf); (first | refine Cnd.yes ?_ | refine Cnd.no ?_ | refine And.intro rfl ?_ | refine And.intro (by omega) ?_ | (refine And.intro ?_ ?_; focus (simp only [IntKind.wrap_i64, IntKind.wrap_u64, IntKind.wrap_u32]; omega)) | (refine And.intro ?_ ?_; focus (simp only [zl1, zl2, zl3, zl4, zl5, zl6, zl7, zl8, zl9] <;> omega)) | refine Alt.std ?_ | (refine Cnd.tt ?_ ?_; focus (first | (apply decide_eq_true; omega) | (simp only [zq1, zq2, zq3, zq4, zq5, zq6, zq7, zq8, zq9, zq10, zq11, zq12] <;> omega) | rfl)) | (refine Cnd.ff ?_ ?_; focus (first | (apply decide_eq_false; omega) | (simp only [zq1, zq2, zq3, zq4, zq5, zq6, zq7, zq8, zq9, zq10, zq11, zq12] <;> omega) | rfl))))
        conv => whnf
        rw [f1, f2, f3, f4, f5, f6, f7, f8, f9, f10, f11]
        clear f0 f1 f2 f3 f4 f5 f6 f7 f8 f9 f10 f11 hc
        by_cases h3 : xf = fr
        · by_cases h4 : xt = to
          · repeat ((conv => whnf); (first | refine Cnd.yes ?_ | refine Cnd.no ?_ | refine And.intro rfl ?_ | refine And.intro (by omega) ?_ | (refine And.intro ?_ ?_; focus (simp only [IntKind.wrap_i64, IntKind.wrap_u64, IntKind.wrap_u32]; omega)) | (refine And.intro ?_ ?_; focus (simp only [zl1, zl2, zl3, zl4, zl5, zl6, zl7, zl8, zl9] <;> omega)) | refine Alt.std ?_ | (refine Cnd.tt ?_ ?_; focus (first | (apply decide_eq_true; omega) | (simp only [zq1, zq2, zq3, zq4, zq5, zq6, zq7, zq8, zq9, zq10, zq11, zq12] <;> omega) | rfl)) | (refine Cnd.ff ?_ ?_; focus (first | (apply decide_eq_false; omega) | (simp only [zq1, zq2, zq3, zq4, zq5, zq6, zq7, zq8, zq9, zq10, zq11, zq12] <;> omega) | rfl))))
            conv => whnf
            refine ⟨kind, rfl, ?_⟩
            by_cases h5 : classN kind = cl
            · rw [if_pos (hiff.2 ⟨h3, h4, h5⟩)] at hnext
              repeat ((conv => whnf); (first | refine Cnd.yes ?_ | refine Cnd.no ?_ | refine And.intro rfl ?_ | refine And.intro (by omega) ?_ | (refine And.intro ?_ ?_; focus (simp only [IntKind.wrap_i64, IntKind.wrap_u64, IntKind.wrap_u32]; omega)) | (refine And.intro ?_ ?_; focus (simp only [zl1, zl2, zl3, zl4, zl5, zl6, zl7, zl8, zl9] <;> omega)) | refine Alt.std ?_ | (refine Cnd.tt ?_ ?_; focus (first | (apply decide_eq_true; omega) | (simp only [zq1, zq2, zq3, zq4, zq5, zq6, zq7, zq8, zq9, zq10, zq11, zq12] <;> omega) | rfl)) | (refine Cnd.ff ?_ ?_; focus (first | (apply decide_eq_false; omega) | (simp only [zq1, zq2, zq3, zq4, zq5, zq6, zq7, zq8, zq9, zq10, zq11, zq12] <;> omega) | rfl))))
              conv => whnf
              rw [hw, ← hnext]
              (refine ⟨(fun s : Nat => l.length - s) (i + 1), [0, 1], tmk 59 0 ((fun s : Nat => [(0, .ptr 0 0 0 0), (1, .v (.int .i64 fr)), (2, .v (.int .i64 to)), (3, .v (.int .i64 cl)), (9, .v (.int .i64 (r - (usedN (l.take s) fr to cl : Nat)))), (10, .v (.int .i64 s))]) (i + 1)), (fun s : Nat => docHp false h r nx l) (i + 1), ?_, ?_⟩; focus (first | (simp only []; omega) | omega))
              repeat ((conv => whnf); (first | refine Cnd.yes ?_ | refine Cnd.no ?_ | refine And.intro rfl ?_ | refine And.intro (by omega) ?_ | (refine And.intro ?_ ?_; focus (simp only [IntKind.wrap_i64, IntKind.wrap_u64, IntKind.wrap_u32]; omega)) | (refine And.intro ?_ ?_; focus (simp only [zl1, zl2, zl3, zl4, zl5, zl6, zl7, zl8, zl9] <;> omega)) | refine Alt.std ?_))
              conv => whnf
              exact ⟨i + 1, hin, rfl, rfl, (tmkK_eq _ _ _ _).mpr rfl, rfl⟩
            · rw [if_neg (fun h => h5 (hiff.1 h).2.2)] at hnext
              replace hnext : usedN (l.take (i + 1)) fr to cl = usedN (l.take i) fr to cl := hnext
              repeat ((conv => whnf); (first | refine Cnd.yes ?_ | refine Cnd.no ?_ | refine And.intro rfl ?_ | refine And.intro (by omega) ?_ | (refine And.intro ?_ ?_; focus (simp only [IntKind.wrap_i64, IntKind.wrap_u64, IntKind.wrap_u32]; omega)) | (refine And.intro ?_ ?_; focus (simp only [zl1, zl2, zl3, zl4, zl5, zl6, zl7, zl8, zl9] <;> omega)) | refine Alt.std ?_ | (refine Cnd.tt ?_ ?_; focus (first | (apply decide_eq_true; omega) | (simp only [zq1, zq2, zq3, zq4, zq5, zq6, zq7, zq8, zq9, zq10, zq11, zq12] <;> omega) | rfl)) | (refine Cnd.ff ?_ ?_; focus (first | (apply decide_eq_false; omega) | (simp only [zq1, zq2, zq3, zq4, zq5, zq6, zq7, zq8, zq9, zq10, zq11, zq12] <;> omega) | rfl))))
              conv => whnf
              rw [← hnext]
              (refine ⟨(fun s : Nat => l.length - s) (i + 1), [0, 1], tmk 59 0 ((fun s : Nat => [(0, .ptr 0 0 0 0), (1, .v (.int .i64 fr)), (2, .v (.int .i64 to)), (3, .v (.int .i64 cl)), (9, .v (.int .i64 (r - (usedN (l.take s) fr to cl : Nat)))), (10, .v (.int .i64 s))]) (i + 1)), (fun s : Nat => docHp false h r nx l) (i + 1), ?_, ?_⟩; focus (first | (simp only []; omega) | omega))
              repeat ((conv => whnf); (first | refine Cnd.yes ?_ | refine Cnd.no ?_ | refine And.intro rfl ?_ | refine And.intro (by omega) ?_ | (refine And.intro ?_ ?_; focus (simp only [IntKind.wrap_i64, IntKind.wrap_u64, IntKind.wrap_u32]; omega)) | (refine And.intro ?_ ?_; focus (simp only [zl1, zl2, zl3, zl4, zl5, zl6, zl7, zl8, zl9] <;> omega)) | refine Alt.std ?_))
              conv => whnf
              exact ⟨i + 1, hin, rfl, rfl, (tmkK_eq _ _ _ _).mpr rfl, rfl⟩
          · rw [if_neg (fun h => h4 (hiff.1 h).2.1)] at hnext
            replace hnext : usedN (l.take (i + 1)) fr to cl = usedN (l.take i) fr to cl := hnext
            repeat ((conv => whnf); (first | refine Cnd.yes ?_ | refine Cnd.no ?_ | refine And.intro rfl ?_ | refine And.intro (by omega) ?_ | (refine And.intro ?_ ?_; focus (simp only [IntKind.wrap_i64, IntKind.wrap_u64, IntKind.wrap_u32]; omega)) | (refine And.intro ?_ ?_; focus (simp only [zl1, zl2, zl3, zl4, zl5, zl6, zl7, zl8, zl9] <;> omega)) | refine Alt.std ?_ | (refine Cnd.tt ?_ ?_; focus (first | (apply decide_eq_true; omega) | (simp only [zq1, zq2, zq3, zq4, zq5, zq6, zq7, zq8, zq9, zq10, zq11, zq12] <;> omega) | rfl)) | (refine Cnd.ff ?_ ?_; focus (first | (apply decide_eq_false; omega) | (simp only [zq1, zq2, zq3, zq4, zq5, zq6, zq7, zq8, zq9, zq10, zq11, zq12] <;> omega) | rfl))))
            conv => whnf
            rw [← hnext]
            (refine ⟨(fun s : Nat => l.length - s) (i + 1), [0, 1], tmk 59 0 ((fun s : Nat => [(0, .ptr 0 0 0 0), (1, .v (.int .i64 fr)), (2, .v (.int .i64 to)), (3, .v (.int .i64 cl)), (9, .v (.int .i64 (r - (usedN (l.take s) fr to cl : Nat)))), (10, .v (.int .i64 s))]) (i + 1)), (fun s : Nat => docHp false h r nx l) (i + 1), ?_, ?_⟩; focus (first | (simp only []; omega) | omega))
            repeat ((conv => whnf); (first | refine Cnd.yes ?_ | refine Cnd.no ?_ | refine And.intro rfl ?_ | refine And.intro (by omega) ?_ | (refine And.intro ?_ ?_; focus (simp only [IntKind.wrap_i64, IntKind.wrap_u64, IntKind.wrap_u32]; omega)) | (refine And.intro ?_ ?_; focus (simp only [zl1, zl2, zl3, zl4, zl5, zl6, zl7, zl8, zl9] <;> omega)) | refine Alt.std ?_))
            conv => whnf
            exact ⟨i + 1, hin, rfl, rfl, (tmkK_eq _ _ _ _).mpr rfl, rfl⟩
        · rw [if_neg (fun h => h3 (hiff.1 h).1)] at hnext
          replace hnext : usedN (l.take (i + 1)) fr to cl = usedN (l.take i) fr to cl := hnext
          repeat ((conv => whnf); (first | refine Cnd.yes ?_ | refine Cnd.no ?_ | refine And.intro rfl ?_ | refine And.intro (by omega) ?_ | (refine And.intro ?_ ?_; focus (simp only [IntKind.wrap_i64, IntKind.wrap_u64, IntKind.wrap_u32]; omega)) | (refine And.intro ?_ ?_; focus (simp only [zl1, zl2, zl3, zl4, zl5, zl6, zl7, zl8, zl9] <;> omega)) | refine Alt.std ?_ | (refine Cnd.tt ?_ ?_; focus (first | (apply decide_eq_true; omega) | (simp only [zq1, zq2, zq3, zq4, zq5, zq6, zq7, zq8, zq9, zq10, zq11, zq12] <;> omega) | rfl)) | (refine Cnd.ff ?_ ?_; focus (first | (apply decide_eq_false; omega) | (simp only [zq1, zq2, zq3, zq4, zq5, zq6, zq7, zq8, zq9, zq10, zq11, zq12] <;> omega) | rfl))))
          conv => whnf
          rw [← hnext]
          (refine ⟨(fun s : Nat => l.length - s) (i + 1), [0, 1], tmk 59 0 ((fun s : Nat => [(0, .ptr 0 0 0 0), (1, .v (.int .i64 fr)), (2, .v (.int .i64 to)), (3, .v (.int .i64 cl)), (9, .v (.int .i64 (r - (usedN (l.take s) fr to cl : Nat)))), (10, .v (.int .i64 s))]) (i + 1)), (fun s : Nat => docHp false h r nx l) (i + 1), ?_, ?_⟩; focus (first | (simp only []; omega) | omega))
          repeat ((conv => whnf); (first | refine Cnd.yes ?_ | refine Cnd.no ?_ | refine And.intro rfl ?_ | refine And.intro (by omega) ?_ | (refine And.intro ?_ ?_; focus (simp only [IntKind.wrap_i64, IntKind.wrap_u64, IntKind.wrap_u32]; omega)) | (refine And.intro ?_ ?_; focus (simp only [zl1, zl2, zl3, zl4, zl5, zl6, zl7, zl8, zl9] <;> omega)) | refine Alt.std ?_))
          conv => whnf
          exact ⟨i + 1, hin, rfl, rfl, (tmkK_eq _ _ _ _).mpr rfl, rfl⟩
      · obtain rfl : i = l.length := by have := of_decide_eq_false hge; omega
        repeat ((conv => whnf); (first | refine Cnd.yes ?_ | refine Cnd.no ?_ | refine And.intro rfl ?_ | refine And.intro (by omega) ?_ | (refine And.intro ?_ ?_; focus (simp only [IntKind.wrap_i64, IntKind.wrap_u64, IntKind.wrap_u32]; omega)) | (refine And.intro ?_ ?_; focus (simp only [zl1, zl2, zl3, zl4, zl5, zl6, zl7, zl8, zl9] <;> omega)) | refine Alt.std ?_ | (refine Cnd.tt ?_ ?_; focus (first | (apply decide_eq_true; omega) | (simp only [zq1, zq2, zq3, zq4, zq5, zq6, zq7, zq8, zq9, zq10, zq11, zq12] <;> omega) | rfl)) | (refine Cnd.ff ?_ ?_; focus (first | (apply decide_eq_false; omega) | (simp only [zq1, zq2, zq3, zq4, zq5, zq6, zq7, zq8, zq9, zq10, zq11, zq12] <;> omega) | rfl))))
        conv => whnf
        refine ⟨[0, 1], .v (.int .i64 (r - (usedN l fr to cl : Nat))), docHp false h r nx l, ?_⟩
        repeat ((conv => whnf); (first | refine Cnd.yes ?_ | refine Cnd.no ?_ | refine And.intro rfl ?_ | refine And.intro (by omega) ?_ | (refine And.intro ?_ ?_; focus (simp only [IntKind.wrap_i64, IntKind.wrap_u64, IntKind.wrap_u32]; omega)) | (refine And.intro ?_ ?_; focus (simp only [zl1, zl2, zl3, zl4, zl5, zl6, zl7, zl8, zl9] <;> omega)) | refine Alt.std ?_))
        conv => whnf
        refine ⟨by rw [List.take_length], ?_⟩
        repeat ((conv => whnf); (first | refine Cnd.yes ?_ | refine Cnd.no ?_ | refine And.intro rfl ?_ | refine And.intro (by omega) ?_ | (refine And.intro ?_ ?_; focus (simp only [IntKind.wrap_i64, IntKind.wrap_u64, IntKind.wrap_u32]; omega)) | (refine And.intro ?_ ?_; focus (simp only [zl1, zl2, zl3, zl4, zl5, zl6, zl7, zl8, zl9] <;> omega)) | refine Alt.std ?_))
        conv => whnf
        exact hK
def droomS : Vc.Spec := fun args hp _ K => ∃ (o : Bool) (h r nx : Int) (fl : List Fl) (fr to cl : Int), args = [.ptr 0 0 0 0, .v (.int .i64 fr), .v (.int .i64 to), .v (.int .i64 cl)] ∧ hp = docHp o h r nx fl ∧ fl.length ≤ 3000 ∧ (0 ≤ r ∧ r ≤ 3000) ∧ K (.v (.int .i64 (roomN h r fl fr to cl))) (docHp o h r nx fl)
theorem droom_ok : SOK Tryd.prog 24 droomS := by
  refine TOK.weaken (TOK.out (runF_eq GL1_ok mixed at24.1 at24.2 pf24_eq)) fun args hp M K h => ?_
  obtain ⟨o, h', r, nx, fl, fr, to, cl, rfl, rfl, h1, h2, h3⟩ := h
  cases o with
  | true => exact droom_runT M K h' r nx fl fr to cl h1 h2 h3
  | false => exact droom_runF M K h' r nx fl fr to cl h1 h2 h3
noncomputable def specsL2 : Nat → Option Vc.Trans := tget [(18, frameT samemsgS)]
noncomputable def GL2 : Nat → Option Vc.Trans := tabG specsL2 (tget tab) 5
theorem GL2_ok : GOK Tryd.prog GL2 := tabG_ok (GOK.cons (frame_ok samemsg_ok) .nil) tab_ok 5
theorem dsame_run (M : HL) (K : SV → List Ent → HL → Prop) (e e2 : TypeId) (o o2 : Bool) (l : List Fl) (hl : l.length ≤ 3000) (hK : K (.v (.bool true)) [.row o e fck (l.map frow), .row o2 e2 fck (l.map frow)] M) :
    runF GL2 pf23 [.slc 0 12 0 l.length, .slc 1 12 0 l.length] [.row o e fck (l.map frow), .row o2 e2 fck (l.map frow)] M fun v hp2 M2 => ∃ m v' hp', Wk (llen [Ent.row o e fck (l.map frow), .row o2 e2 fck (l.map frow)]) m [v] hp2 [v'] hp' (K v' hp' M2) := by
  repeat ((conv => whnf); (first | refine Cnd.yes ?_ | refine Cnd.no ?_ | refine And.intro rfl ?_ | refine And.intro (by omega) ?_ | (refine And.intro ?_ ?_; focus (simp only [IntKind.wrap_i64, IntKind.wrap_u64, IntKind.wrap_u32]; omega)) | (refine And.intro ?_ ?_; focus (simp only [zl1, zl2, zl3, zl4, zl5, zl6, zl7, zl8, zl9] <;> omega)) | refine Alt.std ?_ | (refine Cnd.tt ?_ ?_; focus (first | (apply decide_eq_true; omega) | (simp only [zq1, zq2, zq3, zq4, zq5, zq6, zq7, zq8, zq9, zq10, zq11, zq12] <;> omega) | rfl)) | (refine Cnd.ff ?_ ?_; focus (first | (apply decide_eq_false; omega) | (simp only [zq1, zq2, zq3, zq4, zq5, zq6, zq7, zq8, zq9, zq10, zq11, zq12] <;> omega) | rfl))))
  conv => whnf
  refine ⟨InvS 42 (fun s : Nat => l.length - s) (fun s : Nat => s ≤ l.length) (fun s : Nat => [(0, .slc 0 12 0 l.length), (1, .slc 1 12 0 l.length), (5, .v (.int .i64 s))]) (fun s : Nat => [Ent.row o e fck (l.map frow), .row o2 e2 fck (l.map frow)]) M, ⟨(fun s : Nat => l.length - s) 0, [0, 1], tmk 42 0 ((fun s : Nat => [(0, .slc 0 12 0 l.length), (1, .slc 1 12 0 l.length), (5, .v (.int .i64 s))]) 0), (fun s : Nat => [Ent.row o e fck (l.map frow), .row o2 e2 fck (l.map frow)]) 0, ?_⟩, ?_⟩
  · repeat ((conv => whnf); (first | refine Cnd.yes ?_ | refine Cnd.no ?_ | refine And.intro rfl ?_ | refine And.intro (by omega) ?_ | (refine And.intro ?_ ?_; focus (simp only [IntKind.wrap_i64, IntKind.wrap_u64, IntKind.wrap_u32]; omega)) | (refine And.intro ?_ ?_; focus (simp only [zl1, zl2, zl3, zl4, zl5, zl6, zl7, zl8, zl9] <;> omega)) | refine Alt.std ?_))
    conv => whnf
    exact ⟨0, Nat.zero_le _, rfl, rfl, (tmkK_eq _ _ _ _).mpr rfl, rfl⟩
  · rintro cnt tm hp M1 ⟨i, hC_, rfl, rfl, htm, hhp_⟩
    replace hC_ : i ≤ l.length := hC_
    have hi := hC_
    replace htm : tmkK 42 0 [(0, .slc 0 12 0 l.length), (1, .slc 1 12 0 l.length), (5, .v (.int .i64 i))] (fun l => tm = l) := htm
    conv at htm => whnf
    subst htm
    replace hhp_ : hp = [Ent.row o e fck (l.map frow), .row o2 e2 fck (l.map frow)] := hhp_
    subst hhp_
    repeat ((conv => whnf); (first | refine Cnd.yes ?_ | refine Cnd.no ?_ | refine And.intro rfl ?_ | refine And.intro (by omega) ?_ | (refine And.intro ?_ ?_; focus (simp only [IntKind.wrap_i64, IntKind.wrap_u64, IntKind.wrap_u32]; omega)) | (refine And.intro ?_ ?_; focus (simp only [zl1, zl2, zl3, zl4, zl5, zl6, zl7, zl8, zl9] <;> omega)) | refine Alt.std ?_ | (refine Cnd.tt ?_ ?_; focus (first | (apply decide_eq_true; omega) | (simp only [zq1, zq2, zq3, zq4, zq5, zq6, zq7, zq8, zq9, zq10, zq11, zq12] <;> omega) | rfl)) | (refine Cnd.ff ?_ ?_; focus (first | (apply decide_eq_false; omega) | (simp only [zq1, zq2, zq3, zq4, zq5, zq6, zq7, zq8, zq9, zq10, zq11, zq12] <;> omega) | rfl))))
    conv => whnf
    refine Cnd.mk (fun hlt => ?_) fun hge => ?_
    · have hin : i < l.length := by have := of_decide_eq_true hlt; omega
      have hc := fun k => cell_map frow l default hin k
      repeat ((conv => whnf); (first | refine Cnd.yes ?_ | refine Cnd.no ?_ | refine And.intro rfl ?_ | refine And.intro (by omega) ?_ | (refine And.intro ?_ ?_; focus (simp only [IntKind.wrap_i64, IntKind.wrap_u64, IntKind.wrap_u32]; omega)) | (refine And.intro ?_ ?_; focus (simp only [zl1, zl2, zl3, zl4, zl5, zl6, zl7, zl8, zl9] <;> omega)) | refine Alt.std ?_ | (refine Cnd.tt ?_ ?_; focus (first | (apply decide_eq_true; omega) | (simp only [zq1, zq2, zq3, zq4, zq5, zq6, zq7, zq8, zq9, zq10, zq11, zq12] <;> omega) | rfl)) | (refine Cnd.ff ?_ ?_; focus (first | (apply decide_eq_false; omega) | (simp only [zq1, zq2, zq3, zq4, zq5, zq6, zq7, zq8, zq9, zq10, zq11, zq12] <;> omega) | rfl))))
      conv => whnf
      intro Mr hMr
      repeat ((conv => whnf); (first | refine Cnd.yes ?_ | refine Cnd.no ?_ | refine And.intro rfl ?_ | refine And.intro (by omega) ?_ | (refine And.intro ?_ ?_; focus (simp only [IntKind.wrap_i64, IntKind.wrap_u64, IntKind.wrap_u32]; omega)) | (refine And.intro ?_ ?_; focus (simp only [zl1, zl2, zl3, zl4, zl5, zl6, zl7, zl8, zl9] <;> omega)) | refine Alt.std ?_ | (refine Cnd.tt ?_ ?_; focus (first | (apply decide_eq_true; omega) | (simp only [zq1, zq2, zq3, zq4, zq5, zq6, zq7, zq8, zq9, zq10, zq11, zq12] <;> omega) | rfl)) | (refine Cnd.ff ?_ ?_; focus (first | (apply decide_eq_false; omega) | (simp only [zq1, zq2, zq3, zq4, zq5, zq6, zq7, zq8, zq9, zq10, zq11, zq12] <;> omega) | rfl))))
      conv => whnf
      refine ⟨(l.getD i default).2, by simp only [hc]; rfl, rfl, ?_⟩
      repeat ((conv => whnf); (first | refine Cnd.yes ?_ | refine Cnd.no ?_ | refine And.intro rfl ?_ | refine And.intro (by omega) ?_ | (refine And.intro ?_ ?_; focus (simp only [IntKind.wrap_i64, IntKind.wrap_u64, IntKind.wrap_u32]; omega)) | (refine And.intro ?_ ?_; focus (simp only [zl1, zl2, zl3, zl4, zl5, zl6, zl7, zl8, zl9] <;> omega)) | refine Alt.std ?_ | (refine Cnd.tt ?_ ?_; focus (first | (apply decide_eq_true; omega) | (simp only [zq1, zq2, zq3, zq4, zq5, zq6, zq7, zq8, zq9, zq10, zq11, zq12] <;> omega) | rfl)) | (refine Cnd.ff ?_ ?_; focus (first | (apply decide_eq_false; omega) | (simp only [zq1, zq2, zq3, zq4, zq5, zq6, zq7, zq8, zq9, zq10, zq11, zq12] <;> omega) | rfl))))
      conv => whnf
      (refine ⟨(fun s : Nat => l.length - s) (i + 1), [0, 1], tmk 42 0 ((fun s : Nat => [(0, .slc 0 12 0 l.length), (1, .slc 1 12 0 l.length), (5, .v (.int .i64 s))]) (i + 1)), (fun s : Nat => [Ent.row o e fck (l.map frow), .row o2 e2 fck (l.map frow)]) (i + 1), ?_, ?_⟩; focus (first | (simp only []; omega) | omega))
      repeat ((conv => whnf); (first | refine Cnd.yes ?_ | refine Cnd.no ?_ | refine And.intro rfl ?_ | refine And.intro (by omega) ?_ | (refine And.intro ?_ ?_; focus (simp only [IntKind.wrap_i64, IntKind.wrap_u64, IntKind.wrap_u32]; omega)) | (refine And.intro ?_ ?_; focus (simp only [zl1, zl2, zl3, zl4, zl5, zl6, zl7, zl8, zl9] <;> omega)) | refine Alt.std ?_))
      conv => whnf
      exact ⟨i + 1, hin, rfl, rfl, (tmkK_eq _ _ _ _).mpr rfl, rfl⟩
    · repeat ((conv => whnf); (first | refine Cnd.yes ?_ | refine Cnd.no ?_ | refine And.intro rfl ?_ | refine And.intro (by omega) ?_ | (refine And.intro ?_ ?_; focus (simp only [IntKind.wrap_i64, IntKind.wrap_u64, IntKind.wrap_u32]; omega)) | (refine And.intro ?_ ?_; focus (simp only [zl1, zl2, zl3, zl4, zl5, zl6, zl7, zl8, zl9] <;> omega)) | refine Alt.std ?_ | (refine Cnd.tt ?_ ?_; focus (first | (apply decide_eq_true; omega) | (simp only [zq1, zq2, zq3, zq4, zq5, zq6, zq7, zq8, zq9, zq10, zq11, zq12] <;> omega) | rfl)) | (refine Cnd.ff ?_ ?_; focus (first | (apply decide_eq_false; omega) | (simp only [zq1, zq2, zq3, zq4, zq5, zq6, zq7, zq8, zq9, zq10, zq11, zq12] <;> omega) | rfl))))
      conv => whnf
      refine ⟨[0, 1], .v (.bool true), [.row o e fck (l.map frow), .row o2 e2 fck (l.map frow)], ?_⟩
      repeat ((conv => whnf); (first | refine Cnd.yes ?_ | refine Cnd.no ?_ | refine And.intro rfl ?_ | refine And.intro (by omega) ?_ | (refine And.intro ?_ ?_; focus (simp only [IntKind.wrap_i64, IntKind.wrap_u64, IntKind.wrap_u32]; omega)) | (refine And.intro ?_ ?_; focus (simp only [zl1, zl2, zl3, zl4, zl5, zl6, zl7, zl8, zl9] <;> omega)) | refine Alt.std ?_))
      conv => whnf
      exact hK
def dsameS : Vc.Spec := fun args hp _ K => ∃ (e e2 : TypeId) (o o2 : Bool) (l : List Fl), args = [.slc 0 12 0 l.length, .slc 1 12 0 l.length] ∧ hp = [.row o e fck (l.map frow), .row o2 e2 fck (l.map frow)] ∧ l.length ≤ 3000 ∧ K (.v (.bool true)) [.row o e fck (l.map frow), .row o2 e2 fck (l.map frow)]
theorem dsame_ok : SOK Tryd.prog 23 dsameS := by
  refine TOK.weaken (TOK.out (runF_eq GL2_ok mixed at23.1 at23.2 pf23_eq)) fun args hp M K h => ?_
  obtain ⟨e, e2, o, o2, l, rfl, rfl, h1, h2⟩ := h
  exact dsame_run M K e e2 o o2 l h1 h2
end Go.Proofs.YthomcgclkbmnkaaDoor
