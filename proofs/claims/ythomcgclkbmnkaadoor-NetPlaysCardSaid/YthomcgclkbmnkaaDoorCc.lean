/-
  The net: New, Send, All, Len, Room, walked; their contracts.
-/
import Derived.Test.YthomcgclkbmnkaaDoorCb
import Derived.Test.YthomcgclkbmnkaaDoorCs
namespace Go.Proofs.YthomcgclkbmnkaaDoor
open Go Go.Vc
set_option maxRecDepth 100000
set_option linter.unusedSimpArgs false
set_option linter.unusedVariables false
set_option maxHeartbeats 4000000
noncomputable def specs2 : Nat → Option Vc.Trans := tget [(14, frameT classS), (29, frameT usedS), (28, frameT linkS), (27, frameT cloneS)]
noncomputable def G2 : Nat → Option Vc.Trans := tabG specs2 (tget tab) 5
theorem G2_ok : GOK Tryd.prog G2 := tabG_ok (GOK.cons (frame_ok class_ok) (GOK.cons (frame_ok used_ok) (GOK.cons (frame_ok link_ok) (GOK.cons (frame_ok clone_ok) .nil)))) tab_ok 5
theorem new_run (M : HL) (K : SV → List Ent → HL → Prop) (h r : Int) (h1 : 1 ≤ h ∧ h ≤ 4) (h2 : 1 ≤ r ∧ r ≤ 64) (hK : K (.tup [.ptr 0 0 0 0, .v .nilIface]) (netHp true h r 0 []) M) :
    runF G2 pf8 [.v (.int .i64 h), .v (.int .i64 r)] [] M fun v hp2 M2 => ∃ m v' hp', Wk (llen ([] : List Ent)) m [v] hp2 [v'] hp' (K v' hp' M2) := by
  repeat ((conv => whnf); (first | refine Cnd.yes ?_ | refine Cnd.no ?_ | refine And.intro rfl ?_ | refine And.intro (by omega) ?_ | (refine And.intro ?_ ?_; focus (simp only [IntKind.wrap_i64, IntKind.wrap_u64, IntKind.wrap_u32]; omega)) | (refine And.intro ?_ ?_; focus (simp only [zl1, zl2, zl3, zl4, zl5, zl6, zl7, zl8, zl9] <;> omega)) | refine Alt.std ?_))
  conv => whnf
  refine Cnd.ff (decide_eq_false (by omega)) ?_
  repeat ((conv => whnf); (first | refine Cnd.yes ?_ | refine Cnd.no ?_ | refine And.intro rfl ?_ | refine And.intro (by omega) ?_ | (refine And.intro ?_ ?_; focus (simp only [IntKind.wrap_i64, IntKind.wrap_u64, IntKind.wrap_u32]; omega)) | (refine And.intro ?_ ?_; focus (simp only [zl1, zl2, zl3, zl4, zl5, zl6, zl7, zl8, zl9] <;> omega)) | refine Alt.std ?_))
  conv => whnf
  refine Cnd.ff (decide_eq_false (by omega)) ?_
  repeat ((conv => whnf); (first | refine Cnd.yes ?_ | refine Cnd.no ?_ | refine And.intro rfl ?_ | refine And.intro (by omega) ?_ | (refine And.intro ?_ ?_; focus (simp only [IntKind.wrap_i64, IntKind.wrap_u64, IntKind.wrap_u32]; omega)) | (refine And.intro ?_ ?_; focus (simp only [zl1, zl2, zl3, zl4, zl5, zl6, zl7, zl8, zl9] <;> omega)) | refine Alt.std ?_))
  conv => whnf
  refine Cnd.ff (decide_eq_false (by omega)) ?_
  repeat ((conv => whnf); (first | refine Cnd.yes ?_ | refine Cnd.no ?_ | refine And.intro rfl ?_ | refine And.intro (by omega) ?_ | (refine And.intro ?_ ?_; focus (simp only [IntKind.wrap_i64, IntKind.wrap_u64, IntKind.wrap_u32]; omega)) | (refine And.intro ?_ ?_; focus (simp only [zl1, zl2, zl3, zl4, zl5, zl6, zl7, zl8, zl9] <;> omega)) | refine Alt.std ?_))
  conv => whnf
  refine Cnd.ff (decide_eq_false (by omega)) ?_
  repeat ((conv => whnf); (first | refine Cnd.yes ?_ | refine Cnd.no ?_ | refine And.intro rfl ?_ | refine And.intro (by omega) ?_ | (refine And.intro ?_ ?_; focus (simp only [IntKind.wrap_i64, IntKind.wrap_u64, IntKind.wrap_u32]; omega)) | (refine And.intro ?_ ?_; focus (simp only [zl1, zl2, zl3, zl4, zl5, zl6, zl7, zl8, zl9] <;> omega)) | refine Alt.std ?_))
  conv => whnf
  refine ⟨[0, 9], .tup [.ptr 0 0 0 0, .v .nilIface], netHp true h r 0 [], ?_⟩
  repeat ((conv => whnf); (first | refine Cnd.yes ?_ | refine Cnd.no ?_ | refine And.intro rfl ?_ | refine And.intro (by omega) ?_ | (refine And.intro ?_ ?_; focus (simp only [IntKind.wrap_i64, IntKind.wrap_u64, IntKind.wrap_u32]; omega)) | (refine And.intro ?_ ?_; focus (simp only [zl1, zl2, zl3, zl4, zl5, zl6, zl7, zl8, zl9] <;> omega)) | refine Alt.std ?_))
  conv => whnf
  exact hK
def newS : Vc.Spec := fun args hp _ K => ∃ h r : Int, args = [.v (.int .i64 h), .v (.int .i64 r)] ∧ hp = [] ∧ (1 ≤ h ∧ h ≤ 4) ∧ (1 ≤ r ∧ r ≤ 64) ∧ K (.tup [.ptr 0 0 0 0, .v .nilIface]) (netHp true h r 0 [])
theorem new_ok : SOK Tryd.prog 8 newS := by
  refine TOK.weaken (TOK.out (runF_eq G2_ok mixed at8.1 at8.2 pf8_eq)) fun args hp M K h => ?_
  obtain ⟨h', r, rfl, rfl, h1, h2, h3⟩ := h
  exact new_run M K h' r h1 h2 h3
/-- What is amiss with a message: the error's place in the list. -/
def badM (h r : Int) (all : List Fl) (m : Msg) : Option Nat :=
  if classN m.kind = -1 then some 1 else if (linkB h m.fr m.to (classN m.kind) = false ∨ m.line < 0) then some 2 else if r ≤ (usedN all m.fr m.to (classN m.kind) : Int) then some 6 else none
def sendL (h r nx : Int) : List Fl → Nat → List Msg → (Nat × Nat) ⊕ List Fl
  | all, _, [] => .inr all
  | all, i, m :: ms => match badM h r all m with
    | some p => .inl (i, p)
    | none => sendL h r nx (all ++ [(nx + i, m)]) (i + 1) ms
def sHp (h r nx : Int) (fl : List Fl) (o : Bool) (e : TypeId) (ms : List Msg) (all : List Fl) : List Ent := netHp true h r nx fl ++ [.row o e mck (ms.map mrow), .row true 44 fck (all.map frow)]
set_option maxHeartbeats 4000000 in
theorem send_run (M : HL) (K : SV → List Ent → HL → Prop) (ad : Nat → Addr) (hS : Sents M ad) (h r nx : Int) (fl : List Fl) (o : Bool) (e : TypeId) (ms : List Msg) (hl : fl.length ≤ 3000) (hm : ms.length ≤ 3000) (hn : 0 ≤ nx ∧ nx ≤ 1000000)
    (hK : match sendL h r nx fl 0 ms with
      | .inl (i, p) => K (.ifc 73 (.ptr 3 0 0 0)) (netHp true h r nx fl ++ [.row o e mck (ms.map mrow), atE ad p i]) M
      | .inr all => K (.v .nilIface) [.cells 69 [.v (.int .i64 h), .v (.int .i64 r), .v (.int .i64 (nx + ms.length)), .slc 3 12 0 all.length], .gone, .row o e mck (ms.map mrow), .row true 44 fck (all.map frow)] M) :
    runF G2 pf9 [.ptr 0 0 0 0, .slc 2 11 0 ms.length] (netHp true h r nx fl ++ [.row o e mck (ms.map mrow)]) M fun v hp2 M2 => ∃ m v' hp', Wk (llen (netHp true h r nx fl ++ [.row o e mck (ms.map mrow)])) m [v] hp2 [v'] hp' (K v' hp' M2) := by
  repeat ((conv => whnf); (first | refine Cnd.yes ?_ | refine Cnd.no ?_ | refine And.intro rfl ?_ | refine And.intro (by omega) ?_ | (refine And.intro ?_ ?_; focus (simp only [IntKind.wrap_i64, IntKind.wrap_u64, IntKind.wrap_u32]; omega)) | (refine And.intro ?_ ?_; focus (simp only [zl1, zl2, zl3, zl4, zl5, zl6, zl7, zl8, zl9] <;> omega)) | refine Alt.std ?_))
  conv => whnf
  refine ⟨fl, true, 44, rfl, rfl, by omega, ?_⟩
  repeat ((conv => whnf); (first | refine Cnd.yes ?_ | refine Cnd.no ?_ | refine And.intro rfl ?_ | refine And.intro (by omega) ?_ | (refine And.intro ?_ ?_; focus (simp only [IntKind.wrap_i64, IntKind.wrap_u64, IntKind.wrap_u32]; omega)) | (refine And.intro ?_ ?_; focus (simp only [zl1, zl2, zl3, zl4, zl5, zl6, zl7, zl8, zl9] <;> omega)) | refine Alt.std ?_))
  conv => whnf
  refine ⟨InvS 90 (fun s : Nat × List Fl => ms.length - s.1) (fun s : Nat × List Fl => s.1 ≤ ms.length ∧ s.2.length = fl.length + s.1 ∧ sendL h r nx fl 0 ms = sendL h r nx s.2 s.1 (ms.drop s.1)) (fun s : Nat × List Fl => [(0, .ptr 0 0 0 0), (1, .slc 2 11 0 ms.length), (5, .slc 3 12 0 s.2.length), (15, .slc 2 11 0 ms.length), (16, .v (.int .i64 ms.length)), (17, .v (.int .i64 s.1))]) (fun s : Nat × List Fl => sHp h r nx fl o e ms s.2) M, ⟨(fun s : Nat × List Fl => ms.length - s.1) (0, fl), [0, 1, 2, 3], tmk 90 0 ((fun s : Nat × List Fl => [(0, .ptr 0 0 0 0), (1, .slc 2 11 0 ms.length), (5, .slc 3 12 0 s.2.length), (15, .slc 2 11 0 ms.length), (16, .v (.int .i64 ms.length)), (17, .v (.int .i64 s.1))]) (0, fl)), (fun s : Nat × List Fl => sHp h r nx fl o e ms s.2) (0, fl), ?_⟩, ?_⟩
  · repeat ((conv => whnf); (first | refine Cnd.yes ?_ | refine Cnd.no ?_ | refine And.intro rfl ?_ | refine And.intro (by omega) ?_ | (refine And.intro ?_ ?_; focus (simp only [IntKind.wrap_i64, IntKind.wrap_u64, IntKind.wrap_u32]; omega)) | (refine And.intro ?_ ?_; focus (simp only [zl1, zl2, zl3, zl4, zl5, zl6, zl7, zl8, zl9] <;> omega)) | refine Alt.std ?_))
    conv => whnf
    exact ⟨(0, fl), ⟨by omega, by simp, rfl⟩, rfl, rfl, (tmkK_eq _ _ _ _).mpr rfl, rfl⟩
  · rintro cnt tm hp M1 ⟨⟨i,all⟩, hC_, rfl, rfl, htm, hhp_⟩
    replace hC_ : i ≤ ms.length ∧ all.length = fl.length + i ∧ sendL h r nx fl 0 ms = sendL h r nx all i (ms.drop i) := hC_
    obtain ⟨hi, hal, hsl⟩ := hC_
    replace htm : tmkK 90 0 [(0, .ptr 0 0 0 0), (1, .slc 2 11 0 ms.length), (5, .slc 3 12 0 all.length), (15, .slc 2 11 0 ms.length), (16, .v (.int .i64 ms.length)), (17, .v (.int .i64 i))] (fun l => tm = l) := htm
    conv at htm => whnf
    subst htm
    replace hhp_ : hp = sHp h r nx fl o e ms all := hhp_
    subst hhp_
    repeat ((conv => whnf); (first | refine Cnd.yes ?_ | refine Cnd.no ?_ | refine And.intro rfl ?_ | refine And.intro (by omega) ?_ | (refine And.intro ?_ ?_; focus (simp only [IntKind.wrap_i64, IntKind.wrap_u64, IntKind.wrap_u32]; omega)) | (refine And.intro ?_ ?_; focus (simp only [zl1, zl2, zl3, zl4, zl5, zl6, zl7, zl8, zl9] <;> omega)) | refine Alt.std ?_))
    conv => whnf
    refine Cnd.mk (fun hlt => ?_) fun hge => ?_
    · have hin : i < ms.length := by have := of_decide_eq_true hlt; omega
      have hdrop : ms.drop i = ms.getD i default :: ms.drop (i + 1) := by
        rw [List.drop_eq_getElem_cons hin]
        simp [List.getD, List.getElem?_eq_getElem hin]
      rw [hdrop] at hsl
      have hc := fun k => cell_map mrow ms default hin k
      generalize ms.getD i default = x at *
      obtain ⟨kind, line, xf, xt, d0, d1, d2, d3, b0, b1, b2⟩ := x
      have hu := usedN_le all xf xt (classN kind)
      repeat ((conv => whnf); (first | refine Cnd.yes ?_ | refine Cnd.no ?_ | refine And.intro rfl ?_ | refine And.intro (by omega) ?_ | (refine And.intro ?_ ?_; focus (simp only [IntKind.wrap_i64, IntKind.wrap_u64, IntKind.wrap_u32]; omega)) | (refine And.intro ?_ ?_; focus (simp only [zl1, zl2, zl3, zl4, zl5, zl6, zl7, zl8, zl9] <;> omega)) | refine Alt.std ?_))
      conv => whnf
      generalize hR : ms.map mrow = R at hc ⊢
      have e0 : toI (cellAt R (0 + (i : Int).toNat) 0) = kind := by rw [hc]; rfl
      have e1 : toI (cellAt R (0 + (i : Int).toNat) (0 + 1)) = line := by rw [hc]; rfl
      have e2 : toI (cellAt R (0 + (i : Int).toNat) (0 + 1 + 1)) = xf := by rw [hc]; rfl
      have e3 : toI (cellAt R (0 + (i : Int).toNat) (0 + 1 + 1 + 1)) = xt := by rw [hc]; rfl
      have e4 : toI (cellAt R (0 + (i : Int).toNat) (0 + 1 + 1 + 1 + 1)) = d0 := by rw [hc]; rfl
      have e5 : toI (cellAt R (0 + (i : Int).toNat) (0 + 1 + 1 + 1 + 1 + 1)) = d1 := by rw [hc]; rfl
      have e6 : toI (cellAt R (0 + (i : Int).toNat) (0 + 1 + 1 + 1 + 1 + 1 + 1)) = d2 := by rw [hc]; rfl
      have e7 : toI (cellAt R (0 + (i : Int).toNat) (0 + 1 + 1 + 1 + 1 + 1 + 1 + 1)) = d3 := by rw [hc]; rfl
      have e8 : toB (cellAt R (0 + (i : Int).toNat) (0 + 1 + 1 + 1 + 1 + 1 + 1 + 1 + 1)) = b0 := by rw [hc]; rfl
      have e9 : toB (cellAt R (0 + (i : Int).toNat) (0 + 1 + 1 + 1 + 1 + 1 + 1 + 1 + 1 + 1)) = b1 := by rw [hc]; rfl
      have e10 : toB (cellAt R (0 + (i : Int).toNat) (0 + 1 + 1 + 1 + 1 + 1 + 1 + 1 + 1 + 1 + 1)) = b2 := by rw [hc]; rfl
      rw [e0, e1, e2, e3, e4, e5, e6, e7, e8, e9, e10, ← hR]
      clear e0 e1 e2 e3 e4 e5 e6 e7 e8 e9 e10 hc
      clear hR
      clear R
      refine ⟨kind, rfl, ?_⟩
      have hbad : badM h r all ⟨kind, line, xf, xt, d0, d1, d2, d3, b0, b1, b2⟩ = if classN kind = -1 then some 1 else if (linkB h xf xt (classN kind) = false ∨ line < 0) then some 2 else if r ≤ (usedN all xf xt (classN kind) : Int) then some 6 else none := rfl
      by_cases h1 : classN kind = -1
      · rw [if_pos h1] at hbad
        repeat ((conv => whnf); (first | refine Cnd.yes ?_ | refine Cnd.no ?_ | refine And.intro rfl ?_ | refine And.intro (by omega) ?_ | (refine And.intro ?_ ?_; focus (simp only [IntKind.wrap_i64, IntKind.wrap_u64, IntKind.wrap_u32]; omega)) | (refine And.intro ?_ ?_; focus (simp only [zl1, zl2, zl3, zl4, zl5, zl6, zl7, zl8, zl9] <;> omega)) | refine Alt.std ?_))
        conv => whnf
        refine Cnd.tt (by simpa using h1) ?_
        repeat ((conv => whnf); (first | refine Cnd.yes ?_ | refine Cnd.no ?_ | refine And.intro rfl ?_ | refine And.intro (by omega) ?_ | (refine And.intro ?_ ?_; focus (simp only [IntKind.wrap_i64, IntKind.wrap_u64, IntKind.wrap_u32]; omega)) | (refine And.intro ?_ ?_; focus (simp only [zl1, zl2, zl3, zl4, zl5, zl6, zl7, zl8, zl9] <;> omega)) | refine Alt.std ?_))
        conv => whnf
        refine ⟨_, hS.g 1 (by omega), ?_⟩
        repeat ((conv => whnf); (first | refine Cnd.yes ?_ | refine Cnd.no ?_ | refine And.intro rfl ?_ | refine And.intro (by omega) ?_ | (refine And.intro ?_ ?_; focus (simp only [IntKind.wrap_i64, IntKind.wrap_u64, IntKind.wrap_u32]; omega)) | (refine And.intro ?_ ?_; focus (simp only [zl1, zl2, zl3, zl4, zl5, zl6, zl7, zl8, zl9] <;> omega)) | refine Alt.std ?_))
        conv => whnf
        have hs : sendL h r nx fl 0 ms = .inl (i, 1) := by rw [hsl]; simp only [sendL, hbad]
        rw [hs] at hK
        refine ⟨[0, 1, 2, 5], .ifc 73 (.ptr 3 0 0 0), netHp true h r nx fl ++ [.row o e mck (ms.map mrow), atE ad 1 i], ?_⟩
        repeat ((conv => whnf); (first | refine Cnd.yes ?_ | refine Cnd.no ?_ | refine And.intro rfl ?_ | refine And.intro (by omega) ?_ | (refine And.intro ?_ ?_; focus (simp only [IntKind.wrap_i64, IntKind.wrap_u64, IntKind.wrap_u32]; omega)) | (refine And.intro ?_ ?_; focus (simp only [zl1, zl2, zl3, zl4, zl5, zl6, zl7, zl8, zl9] <;> omega)) | refine Alt.std ?_))
        conv => whnf
        exact hK
      · rw [if_neg h1] at hbad
        repeat ((conv => whnf); (first | refine Cnd.yes ?_ | refine Cnd.no ?_ | refine And.intro rfl ?_ | refine And.intro (by omega) ?_ | (refine And.intro ?_ ?_; focus (simp only [IntKind.wrap_i64, IntKind.wrap_u64, IntKind.wrap_u32]; omega)) | (refine And.intro ?_ ?_; focus (simp only [zl1, zl2, zl3, zl4, zl5, zl6, zl7, zl8, zl9] <;> omega)) | refine Alt.std ?_))
        conv => whnf
        refine Cnd.ff (by simpa using h1) ?_
        repeat ((conv => whnf); (first | refine Cnd.yes ?_ | refine Cnd.no ?_ | refine And.intro rfl ?_ | refine And.intro (by omega) ?_ | (refine And.intro ?_ ?_; focus (simp only [IntKind.wrap_i64, IntKind.wrap_u64, IntKind.wrap_u32]; omega)) | (refine And.intro ?_ ?_; focus (simp only [zl1, zl2, zl3, zl4, zl5, zl6, zl7, zl8, zl9] <;> omega)) | refine Alt.std ?_))
        conv => whnf
        refine ⟨true, h, r, nx, fl, xf, xt, classN kind, rfl, rfl, ?_⟩
        repeat ((conv => whnf); (first | refine Cnd.yes ?_ | refine Cnd.no ?_ | refine And.intro rfl ?_ | refine And.intro (by omega) ?_ | (refine And.intro ?_ ?_; focus (simp only [IntKind.wrap_i64, IntKind.wrap_u64, IntKind.wrap_u32]; omega)) | (refine And.intro ?_ ?_; focus (simp only [zl1, zl2, zl3, zl4, zl5, zl6, zl7, zl8, zl9] <;> omega)) | refine Alt.std ?_))
        conv => whnf
        cases h2 : linkB h xf xt (classN kind) with
        | false =>
          rw [if_pos (.inl h2)] at hbad
          repeat ((conv => whnf); (first | refine Cnd.yes ?_ | refine Cnd.no ?_ | refine And.intro rfl ?_ | refine And.intro (by omega) ?_ | (refine And.intro ?_ ?_; focus (simp only [IntKind.wrap_i64, IntKind.wrap_u64, IntKind.wrap_u32]; omega)) | (refine And.intro ?_ ?_; focus (simp only [zl1, zl2, zl3, zl4, zl5, zl6, zl7, zl8, zl9] <;> omega)) | refine Alt.std ?_))
          conv => whnf
          refine ⟨_, hS.g 2 (by omega), ?_⟩
          repeat ((conv => whnf); (first | refine Cnd.yes ?_ | refine Cnd.no ?_ | refine And.intro rfl ?_ | refine And.intro (by omega) ?_ | (refine And.intro ?_ ?_; focus (simp only [IntKind.wrap_i64, IntKind.wrap_u64, IntKind.wrap_u32]; omega)) | (refine And.intro ?_ ?_; focus (simp only [zl1, zl2, zl3, zl4, zl5, zl6, zl7, zl8, zl9] <;> omega)) | refine Alt.std ?_))
          conv => whnf
          have hs : sendL h r nx fl 0 ms = .inl (i, 2) := by rw [hsl]; simp only [sendL, hbad]
          rw [hs] at hK
          refine ⟨[0, 1, 2, 5], .ifc 73 (.ptr 3 0 0 0), netHp true h r nx fl ++ [.row o e mck (ms.map mrow), atE ad 2 i], ?_⟩
          repeat ((conv => whnf); (first | refine Cnd.yes ?_ | refine Cnd.no ?_ | refine And.intro rfl ?_ | refine And.intro (by omega) ?_ | (refine And.intro ?_ ?_; focus (simp only [IntKind.wrap_i64, IntKind.wrap_u64, IntKind.wrap_u32]; omega)) | (refine And.intro ?_ ?_; focus (simp only [zl1, zl2, zl3, zl4, zl5, zl6, zl7, zl8, zl9] <;> omega)) | refine Alt.std ?_))
          conv => whnf
          exact hK
        | true =>
          repeat ((conv => whnf); (first | refine Cnd.yes ?_ | refine Cnd.no ?_ | refine And.intro rfl ?_ | refine And.intro (by omega) ?_ | (refine And.intro ?_ ?_; focus (simp only [IntKind.wrap_i64, IntKind.wrap_u64, IntKind.wrap_u32]; omega)) | (refine And.intro ?_ ?_; focus (simp only [zl1, zl2, zl3, zl4, zl5, zl6, zl7, zl8, zl9] <;> omega)) | refine Alt.std ?_))
          conv => whnf
          by_cases h3 : line < 0
          · rw [if_pos (.inr h3)] at hbad
            refine Cnd.tt (decide_eq_true h3) ?_
            repeat ((conv => whnf); (first | refine Cnd.yes ?_ | refine Cnd.no ?_ | refine And.intro rfl ?_ | refine And.intro (by omega) ?_ | (refine And.intro ?_ ?_; focus (simp only [IntKind.wrap_i64, IntKind.wrap_u64, IntKind.wrap_u32]; omega)) | (refine And.intro ?_ ?_; focus (simp only [zl1, zl2, zl3, zl4, zl5, zl6, zl7, zl8, zl9] <;> omega)) | refine Alt.std ?_))
            conv => whnf
            refine ⟨_, hS.g 2 (by omega), ?_⟩
            repeat ((conv => whnf); (first | refine Cnd.yes ?_ | refine Cnd.no ?_ | refine And.intro rfl ?_ | refine And.intro (by omega) ?_ | (refine And.intro ?_ ?_; focus (simp only [IntKind.wrap_i64, IntKind.wrap_u64, IntKind.wrap_u32]; omega)) | (refine And.intro ?_ ?_; focus (simp only [zl1, zl2, zl3, zl4, zl5, zl6, zl7, zl8, zl9] <;> omega)) | refine Alt.std ?_))
            conv => whnf
            have hs : sendL h r nx fl 0 ms = .inl (i, 2) := by rw [hsl]; simp only [sendL, hbad]
            rw [hs] at hK
            refine ⟨[0, 1, 2, 5], .ifc 73 (.ptr 3 0 0 0), netHp true h r nx fl ++ [.row o e mck (ms.map mrow), atE ad 2 i], ?_⟩
            repeat ((conv => whnf); (first | refine Cnd.yes ?_ | refine Cnd.no ?_ | refine And.intro rfl ?_ | refine And.intro (by omega) ?_ | (refine And.intro ?_ ?_; focus (simp only [IntKind.wrap_i64, IntKind.wrap_u64, IntKind.wrap_u32]; omega)) | (refine And.intro ?_ ?_; focus (simp only [zl1, zl2, zl3, zl4, zl5, zl6, zl7, zl8, zl9] <;> omega)) | refine Alt.std ?_))
            conv => whnf
            exact hK
          · rw [if_neg (fun h => h.elim (fun h => by rw [h2] at h; cases h) h3)] at hbad
            refine Cnd.ff (decide_eq_false h3) ?_
            repeat ((conv => whnf); (first | refine Cnd.yes ?_ | refine Cnd.no ?_ | refine And.intro rfl ?_ | refine And.intro (by omega) ?_ | (refine And.intro ?_ ?_; focus (simp only [IntKind.wrap_i64, IntKind.wrap_u64, IntKind.wrap_u32]; omega)) | (refine And.intro ?_ ?_; focus (simp only [zl1, zl2, zl3, zl4, zl5, zl6, zl7, zl8, zl9] <;> omega)) | refine Alt.std ?_))
            conv => whnf
            intro Mr hMr
            repeat ((conv => whnf); (first | refine Cnd.yes ?_ | refine Cnd.no ?_ | refine And.intro rfl ?_ | refine And.intro (by omega) ?_ | (refine And.intro ?_ ?_; focus (simp only [IntKind.wrap_i64, IntKind.wrap_u64, IntKind.wrap_u32]; omega)) | (refine And.intro ?_ ?_; focus (simp only [zl1, zl2, zl3, zl4, zl5, zl6, zl7, zl8, zl9] <;> omega)) | refine Alt.std ?_))
            conv => whnf
            refine ⟨all, false, 44, xf, xt, classN kind, rfl, rfl, by omega, ?_⟩
            repeat ((conv => whnf); (first | refine Cnd.yes ?_ | refine Cnd.no ?_ | refine And.intro rfl ?_ | refine And.intro (by omega) ?_ | (refine And.intro ?_ ?_; focus (simp only [IntKind.wrap_i64, IntKind.wrap_u64, IntKind.wrap_u32]; omega)) | (refine And.intro ?_ ?_; focus (simp only [zl1, zl2, zl3, zl4, zl5, zl6, zl7, zl8, zl9] <;> omega)) | refine Alt.std ?_))
            conv => whnf
            by_cases h4 : r ≤ (usedN all xf xt (classN kind) : Int)
            · rw [if_pos h4] at hbad
              refine Cnd.tt (decide_eq_true h4) ?_
              repeat ((conv => whnf); (first | refine Cnd.yes ?_ | refine Cnd.no ?_ | refine And.intro rfl ?_ | refine And.intro (by omega) ?_ | (refine And.intro ?_ ?_; focus (simp only [IntKind.wrap_i64, IntKind.wrap_u64, IntKind.wrap_u32]; omega)) | (refine And.intro ?_ ?_; focus (simp only [zl1, zl2, zl3, zl4, zl5, zl6, zl7, zl8, zl9] <;> omega)) | refine Alt.std ?_))
              conv => whnf
              refine ⟨_, hS.g 3 (by omega), ?_⟩
              repeat ((conv => whnf); (first | refine Cnd.yes ?_ | refine Cnd.no ?_ | refine And.intro rfl ?_ | refine And.intro (by omega) ?_ | (refine And.intro ?_ ?_; focus (simp only [IntKind.wrap_i64, IntKind.wrap_u64, IntKind.wrap_u32]; omega)) | (refine And.intro ?_ ?_; focus (simp only [zl1, zl2, zl3, zl4, zl5, zl6, zl7, zl8, zl9] <;> omega)) | refine Alt.std ?_))
              conv => whnf
              have hs : sendL h r nx fl 0 ms = .inl (i, 6) := by rw [hsl]; simp only [sendL, hbad]
              rw [hs] at hK
              refine ⟨[0, 1, 2, 5], .ifc 73 (.ptr 3 0 0 0), netHp true h r nx fl ++ [.row o e mck (ms.map mrow), atE ad 6 i], ?_⟩
              repeat ((conv => whnf); (first | refine Cnd.yes ?_ | refine Cnd.no ?_ | refine And.intro rfl ?_ | refine And.intro (by omega) ?_ | (refine And.intro ?_ ?_; focus (simp only [IntKind.wrap_i64, IntKind.wrap_u64, IntKind.wrap_u32]; omega)) | (refine And.intro ?_ ?_; focus (simp only [zl1, zl2, zl3, zl4, zl5, zl6, zl7, zl8, zl9] <;> omega)) | refine Alt.std ?_))
              conv => whnf
              exact hK
            · rw [if_neg h4] at hbad
              refine Cnd.ff (decide_eq_false h4) ?_
              repeat ((conv => whnf); (first | refine Cnd.yes ?_ | refine Cnd.no ?_ | refine And.intro rfl ?_ | refine And.intro (by omega) ?_ | (refine And.intro ?_ ?_; focus (simp only [IntKind.wrap_i64, IntKind.wrap_u64, IntKind.wrap_u32]; omega)) | (refine And.intro ?_ ?_; focus (simp only [zl1, zl2, zl3, zl4, zl5, zl6, zl7, zl8, zl9] <;> omega)) | refine Alt.std ?_))
              conv => whnf
              have hs : sendL h r nx fl 0 ms = sendL h r nx (all ++ [(nx + i, ⟨kind, line, xf, xt, d0, d1, d2, d3, b0, b1, b2⟩)]) (i + 1) (ms.drop (i + 1)) := by
                rw [hsl]; simp only [sendL, hbad]
              have hw : IntKind.i64.wrap (nx + (i : Int)) = nx + i := by rw [IntKind.wrap_i64]; omega
              rw [hw]
              (refine ⟨(fun s : Nat × List Fl => ms.length - s.1) ((i + 1, all ++ [(nx + i, ⟨kind, line, xf, xt, d0, d1, d2, d3, b0, b1, b2⟩)])), [0, 1, 2, 6], tmk 90 0 ((fun s : Nat × List Fl => [(0, .ptr 0 0 0 0), (1, .slc 2 11 0 ms.length), (5, .slc 3 12 0 s.2.length), (15, .slc 2 11 0 ms.length), (16, .v (.int .i64 ms.length)), (17, .v (.int .i64 s.1))]) ((i + 1, all ++ [(nx + i, ⟨kind, line, xf, xt, d0, d1, d2, d3, b0, b1, b2⟩)]))), (fun s : Nat × List Fl => sHp h r nx fl o e ms s.2) ((i + 1, all ++ [(nx + i, ⟨kind, line, xf, xt, d0, d1, d2, d3, b0, b1, b2⟩)])), ?_, ?_⟩; focus (first | (simp only []; omega) | omega))
              repeat ((conv => whnf); (first | refine Cnd.yes ?_ | refine Cnd.no ?_ | refine And.intro rfl ?_ | refine And.intro (by omega) ?_ | (refine And.intro ?_ ?_; focus (simp only [IntKind.wrap_i64, IntKind.wrap_u64, IntKind.wrap_u32]; omega)) | (refine And.intro ?_ ?_; focus (simp only [zl1, zl2, zl3, zl4, zl5, zl6, zl7, zl8, zl9] <;> omega)) | refine Alt.std ?_))
              conv => whnf
              refine ⟨by rw [List.drop_zero, List.drop_zero, List.take_of_length_le (l := all.map frow) (by simp)]; simp [frow], ?_⟩
              repeat ((conv => whnf); (first | refine Cnd.yes ?_ | refine Cnd.no ?_ | refine And.intro rfl ?_ | refine And.intro (by omega) ?_ | (refine And.intro ?_ ?_; focus (simp only [IntKind.wrap_i64, IntKind.wrap_u64, IntKind.wrap_u32]; omega)) | (refine And.intro ?_ ?_; focus (simp only [zl1, zl2, zl3, zl4, zl5, zl6, zl7, zl8, zl9] <;> omega)) | refine Alt.std ?_))
              conv => whnf
              exact ⟨(i + 1, all ++ [(nx + i, ⟨kind, line, xf, xt, d0, d1, d2, d3, b0, b1, b2⟩)]), ⟨by show i + 1 ≤ ms.length; omega, by simp; omega, hs⟩, rfl, rfl, (tmkK_eq _ _ _ _).mpr rfl, rfl⟩
    · have hin : i = ms.length := by have := of_decide_eq_false hge; omega
      subst hin
      rw [List.drop_length] at hsl
      rw [hsl] at hK
      simp only [sendL] at hK
      have hw : IntKind.i64.wrap (nx + (ms.length : Int)) = nx + ms.length := by rw [IntKind.wrap_i64]; omega
      repeat ((conv => whnf); (first | refine Cnd.yes ?_ | refine Cnd.no ?_ | refine And.intro rfl ?_ | refine And.intro (by omega) ?_ | (refine And.intro ?_ ?_; focus (simp only [IntKind.wrap_i64, IntKind.wrap_u64, IntKind.wrap_u32]; omega)) | (refine And.intro ?_ ?_; focus (simp only [zl1, zl2, zl3, zl4, zl5, zl6, zl7, zl8, zl9] <;> omega)) | refine Alt.std ?_))
      conv => whnf
      rw [hw]
      refine ⟨[0, 1, 2, 3], .v .nilIface, [.cells 69 [.v (.int .i64 h), .v (.int .i64 r), .v (.int .i64 (nx + ms.length)), .slc 3 12 0 all.length], .gone, .row o e mck (ms.map mrow), .row true 44 fck (all.map frow)], ?_⟩
      repeat ((conv => whnf); (first | refine Cnd.yes ?_ | refine Cnd.no ?_ | refine And.intro rfl ?_ | refine And.intro (by omega) ?_ | (refine And.intro ?_ ?_; focus (simp only [IntKind.wrap_i64, IntKind.wrap_u64, IntKind.wrap_u32]; omega)) | (refine And.intro ?_ ?_; focus (simp only [zl1, zl2, zl3, zl4, zl5, zl6, zl7, zl8, zl9] <;> omega)) | refine Alt.std ?_))
      conv => whnf
      exact hK
def sendS : Vc.Spec := fun args hp M K => ∃ (ad : Nat → Addr) (h r nx : Int) (fl : List Fl) (o : Bool) (e : TypeId) (ms : List Msg), Sents M ad ∧ args = [.ptr 0 0 0 0, .slc 2 11 0 ms.length] ∧ hp = netHp true h r nx fl ++ [.row o e mck (ms.map mrow)] ∧ fl.length ≤ 3000 ∧ ms.length ≤ 3000 ∧ (0 ≤ nx ∧ nx ≤ 1000000) ∧
  match sendL h r nx fl 0 ms with
      | .inl (i, p) => K (.ifc 73 (.ptr 3 0 0 0)) (netHp true h r nx fl ++ [.row o e mck (ms.map mrow), atE ad p i])
      | .inr all => K (.v .nilIface) [.cells 69 [.v (.int .i64 h), .v (.int .i64 r), .v (.int .i64 (nx + ms.length)), .slc 3 12 0 all.length], .gone, .row o e mck (ms.map mrow), .row true 44 fck (all.map frow)]
theorem send_ok : SOK Tryd.prog 9 sendS := by
  refine TOK.weaken (TOK.out (runF_eq G2_ok mixed at9.1 at9.2 pf9_eq)) fun args hp M K h => ?_
  obtain ⟨ad, h', r, nx, fl, o, e, ms, hS, rfl, rfl, h1, h2, h3, h4⟩ := h
  refine send_run M K ad hS h' r nx fl o e ms h1 h2 h3 ?_
  split at h4 <;> exact h4
theorem len_run (o : Bool) (M : HL) (K : SV → List Ent → HL → Prop) (h r nx : Int) (fl : List Fl) (hK : K (.v (.int .i64 fl.length)) (netHp o h r nx fl) M) : runF G2 pf12 [.ptr 0 0 0 0] (netHp o h r nx fl) M K := by
  cases o
  all_goals
    repeat ((conv => whnf); (first | refine Cnd.yes ?_ | refine Cnd.no ?_ | refine And.intro rfl ?_ | refine And.intro (by omega) ?_ | (refine And.intro ?_ ?_; focus (simp only [IntKind.wrap_i64, IntKind.wrap_u64, IntKind.wrap_u32]; omega)) | (refine And.intro ?_ ?_; focus (simp only [zl1, zl2, zl3, zl4, zl5, zl6, zl7, zl8, zl9] <;> omega)) | refine Alt.std ?_))
    conv => whnf
    exact hK
def lenS : Vc.Spec := fun args hp _ K => ∃ (o : Bool) (h r nx : Int) (fl : List Fl), args = [.ptr 0 0 0 0] ∧ hp = netHp o h r nx fl ∧ K (.v (.int .i64 fl.length)) (netHp o h r nx fl)
theorem len_ok : SOK Tryd.prog 12 lenS := by
  refine TOK.weaken (runF_eq G2_ok mixed at12.1 at12.2 pf12_eq) fun args hp M K h => ?_
  obtain ⟨o, h', r, nx, fl, rfl, rfl, h1⟩ := h
  exact len_run o M K h' r nx fl h1
theorem all_run (M : HL) (K : SV → List Ent → HL → Prop) (h r nx : Int) (fl : List Fl) (hl : fl.length ≤ 1000000) (hK : K (.slc 2 12 0 fl.length) (netHp true h r nx fl ++ [.row true 44 fck (fl.map frow)]) M) : runF G2 pf13 [.ptr 0 0 0 0] (netHp true h r nx fl) M K := by
  repeat ((conv => whnf); (first | refine Cnd.yes ?_ | refine Cnd.no ?_ | refine And.intro rfl ?_ | refine And.intro (by omega) ?_ | (refine And.intro ?_ ?_; focus (simp only [IntKind.wrap_i64, IntKind.wrap_u64, IntKind.wrap_u32]; omega)) | (refine And.intro ?_ ?_; focus (simp only [zl1, zl2, zl3, zl4, zl5, zl6, zl7, zl8, zl9] <;> omega)) | refine Alt.std ?_))
  conv => whnf
  refine ⟨fl, true, 44, rfl, rfl, hl, ?_⟩
  repeat ((conv => whnf); (first | refine Cnd.yes ?_ | refine Cnd.no ?_ | refine And.intro rfl ?_ | refine And.intro (by omega) ?_ | (refine And.intro ?_ ?_; focus (simp only [IntKind.wrap_i64, IntKind.wrap_u64, IntKind.wrap_u32]; omega)) | (refine And.intro ?_ ?_; focus (simp only [zl1, zl2, zl3, zl4, zl5, zl6, zl7, zl8, zl9] <;> omega)) | refine Alt.std ?_))
  conv => whnf
  exact hK
def allS : Vc.Spec := fun args hp _ K => ∃ (h r nx : Int) (fl : List Fl), args = [.ptr 0 0 0 0] ∧ hp = netHp true h r nx fl ∧ fl.length ≤ 1000000 ∧ K (.slc 2 12 0 fl.length) (netHp true h r nx fl ++ [.row true 44 fck (fl.map frow)])
theorem all_ok : SOK Tryd.prog 13 allS := by
  refine TOK.weaken (runF_eq G2_ok mixed at13.1 at13.2 pf13_eq) fun args hp M K h => ?_
  obtain ⟨h', r, nx, fl, rfl, rfl, h1, h2⟩ := h
  exact all_run M K h' r nx fl h1 h2
def roomN (h r : Int) (fl : List Fl) (fr to cl : Int) : Int := if linkB h fr to cl then r - usedN fl fr to cl else 0
theorem room_run (M : HL) (K : SV → List Ent → HL → Prop) (h r nx : Int) (fl : List Fl) (fr to cl : Int) (hl : fl.length ≤ 3000) (hr : 0 ≤ r ∧ r ≤ 3000) (hK : K (.v (.int .i64 (roomN h r fl fr to cl))) (netHp true h r nx fl) M) :
    runF G2 pf15 [.ptr 0 0 0 0, .v (.int .i64 fr), .v (.int .i64 to), .v (.int .i64 cl)] (netHp true h r nx fl) M K := by
  unfold roomN at hK
  have hu := usedN_le fl fr to cl
  repeat ((conv => whnf); (first | refine Cnd.yes ?_ | refine Cnd.no ?_ | refine And.intro rfl ?_ | refine And.intro (by omega) ?_ | (refine And.intro ?_ ?_; focus (simp only [IntKind.wrap_i64, IntKind.wrap_u64, IntKind.wrap_u32]; omega)) | (refine And.intro ?_ ?_; focus (simp only [zl1, zl2, zl3, zl4, zl5, zl6, zl7, zl8, zl9] <;> omega)) | refine Alt.std ?_))
  conv => whnf
  refine ⟨true, h, r, nx, fl, fr, to, cl, rfl, rfl, ?_⟩
  cases hb : linkB h fr to cl with
  | true =>
    rw [hb, if_pos rfl] at hK
    repeat ((conv => whnf); (first | refine Cnd.yes ?_ | refine Cnd.no ?_ | refine And.intro rfl ?_ | refine And.intro (by omega) ?_ | (refine And.intro ?_ ?_; focus (simp only [IntKind.wrap_i64, IntKind.wrap_u64, IntKind.wrap_u32]; omega)) | (refine And.intro ?_ ?_; focus (simp only [zl1, zl2, zl3, zl4, zl5, zl6, zl7, zl8, zl9] <;> omega)) | refine Alt.std ?_))
    conv => whnf
    intro Mr hMr
    repeat ((conv => whnf); (first | refine Cnd.yes ?_ | refine Cnd.no ?_ | refine And.intro rfl ?_ | refine And.intro (by omega) ?_ | (refine And.intro ?_ ?_; focus (simp only [IntKind.wrap_i64, IntKind.wrap_u64, IntKind.wrap_u32]; omega)) | (refine And.intro ?_ ?_; focus (simp only [zl1, zl2, zl3, zl4, zl5, zl6, zl7, zl8, zl9] <;> omega)) | refine Alt.std ?_))
    conv => whnf
    refine ⟨fl, false, 44, fr, to, cl, rfl, rfl, by omega, ?_⟩
    repeat ((conv => whnf); (first | refine Cnd.yes ?_ | refine Cnd.no ?_ | refine And.intro rfl ?_ | refine And.intro (by omega) ?_ | (refine And.intro ?_ ?_; focus (simp only [IntKind.wrap_i64, IntKind.wrap_u64, IntKind.wrap_u32]; omega)) | (refine And.intro ?_ ?_; focus (simp only [zl1, zl2, zl3, zl4, zl5, zl6, zl7, zl8, zl9] <;> omega)) | refine Alt.std ?_))
    conv => whnf
    rw [show IntKind.i64.wrap (r - (usedN fl fr to cl : Int)) = r - usedN fl fr to cl from by rw [IntKind.wrap_i64]; omega]
    exact hK
  | false =>
    rw [hb, if_neg (by decide)] at hK
    repeat ((conv => whnf); (first | refine Cnd.yes ?_ | refine Cnd.no ?_ | refine And.intro rfl ?_ | refine And.intro (by omega) ?_ | (refine And.intro ?_ ?_; focus (simp only [IntKind.wrap_i64, IntKind.wrap_u64, IntKind.wrap_u32]; omega)) | (refine And.intro ?_ ?_; focus (simp only [zl1, zl2, zl3, zl4, zl5, zl6, zl7, zl8, zl9] <;> omega)) | refine Alt.std ?_))
    conv => whnf
    exact hK
def roomS : Vc.Spec := fun args hp _ K => ∃ (h r nx : Int) (fl : List Fl) (fr to cl : Int), args = [.ptr 0 0 0 0, .v (.int .i64 fr), .v (.int .i64 to), .v (.int .i64 cl)] ∧ hp = netHp true h r nx fl ∧ fl.length ≤ 3000 ∧ (0 ≤ r ∧ r ≤ 3000) ∧ K (.v (.int .i64 (roomN h r fl fr to cl))) (netHp true h r nx fl)
theorem room_ok : SOK Tryd.prog 15 roomS := by
  refine TOK.weaken (runF_eq G2_ok mixed at15.1 at15.2 pf15_eq) fun args hp M K h => ?_
  obtain ⟨h', r, nx, fl, fr, to, cl, rfl, rfl, h1, h2, h3⟩ := h
  exact room_run M K h' r nx fl fr to cl h1 h2 h3
end Go.Proofs.YthomcgclkbmnkaaDoor
