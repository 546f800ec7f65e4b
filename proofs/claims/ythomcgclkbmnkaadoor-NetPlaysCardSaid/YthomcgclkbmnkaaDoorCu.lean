/-
  each and Each's closure, put together.
-/
import Derived.Test.YthomcgclkbmnkaaDoorCr
namespace Go.Proofs.YthomcgclkbmnkaaDoor
open Go Go.Vc
set_option maxRecDepth 100000
set_option linter.unusedSimpArgs false
set_option linter.unusedVariables false
set_option maxHeartbeats 4000000
def rp1 : PCode := match pf26.code with | .seq a _ => a | _ => .skip
def rp2 : PCode := match pf26.code with | .seq _ (.seq a _) => a | _ => .skip
def rp3 : PCode := match pf26.code with | .seq _ (.seq _ (.seq (.seq a _) _)) => a | _ => .skip
def tmS (n : Nat) (k st : Int) : List SV := [.ptr 0 0 0 0, .v (.int .i64 k), .slc 2 12 0 n, .v (.int .i64 st)] ++ List.replicate 54 (.v undef)
def eHp (h r nx : Int) (fl : List Fl) (k : Int) : List Ent := netHp true h r nx fl ++ [.row true 64 fck ((ofC fl k).map frow)]
def tm13 : List SV := tmk 58 0 [(0, .ptr 0 0 0 0), (6, .ptr 3 0 0 0), (7, .ptr 4 0 0 0), (8, .ptr 5 0 0 0), (9, .ptr 6 0 0 0), (13, .fn (.func 45) [] [.ptr 7 0 0 0, .ptr 8 0 0 0])]
theorem pre26 (M : HL) (h r nx : Int) (fl : List Fl) (k st : Int) :
    vc GY 3 rp1 (tmS (ofC fl k).length k st) (eHp h r nx fl k) M fun ex tm1 hp1 M1 => ex = .normal ∧ vc GY 3 rp2 tm1 hp1 M1 fun ex tm2 hp2 M2 => ex = .normal ∧ vc GY 3 rp3 tm2 hp2 M2 fun ex tm3 hp3 M3 =>
      ex = .normal ∧ M3 = M ∧ hp3 = preHp h r nx fl k st ∧ Fg tm3 tm13 := by
  repeat ((conv => whnf); (first | refine Cnd.yes ?_ | refine Cnd.no ?_ | refine And.intro rfl ?_ | refine And.intro (by omega) ?_ | (refine And.intro ?_ ?_; focus (simp only [IntKind.wrap_i64, IntKind.wrap_u64, IntKind.wrap_u32]; omega)) | (refine And.intro ?_ ?_; focus (simp only [zl1, zl2, zl3, zl4, zl5, zl6, zl7, zl8, zl9] <;> omega)) | refine Alt.std ?_ | (refine Cnd.tt ?_ ?_; focus (first | (apply decide_eq_true; omega) | (simp only [zq1, zq2, zq3, zq4, zq5, zq6, zq7, zq8, zq9, zq10, zq11, zq12] <;> omega) | rfl)) | (refine Cnd.ff ?_ ?_; focus (first | (apply decide_eq_false; omega) | (simp only [zq1, zq2, zq3, zq4, zq5, zq6, zq7, zq8, zq9, zq10, zq11, zq12] <;> omega) | rfl))))
  conv => whnf
  repeat ((conv => whnf); (first | exact trivial | refine And.intro (.inl rfl) ?_ | refine And.intro (.inr rfl) ?_))
noncomputable def code26 : Code := Tryd.f26.body.getD .skip
noncomputable def p1c : Code := match code26 with | .seq a _ => a | _ => .skip
noncomputable def p2c : Code := match code26 with | .seq _ (.seq a _) => a | _ => .skip
noncomputable def p3c : Code := match code26 with | .seq _ (.seq _ (.seq (.seq a _) _)) => a | _ => .skip
noncomputable def xc : Code := match code26 with | .seq _ (.seq _ (.seq (.seq _ (.block _ (.rangeFunc _ _ a _))) _)) => a | _ => .skip
noncomputable def yc : Code := match code26 with | .seq _ (.seq _ (.seq (.seq _ (.block _ (.rangeFunc _ _ _ a))) _)) => a | _ => .skip
noncomputable def tc : Code := match code26 with | .seq _ (.seq _ (.seq _ a)) => a | _ => .skip
theorem code26_eq : code26 = .seq p1c (.seq p2c (.seq (.seq p3c (.block 0 (.rangeFunc (.tmp 13) #[14] xc yc))) tc)) := by kernel_rfl
theorem body26 : Tryd.f26.body = some code26 := by kernel_rfl
theorem cc26 : ccode Tryd.prog pl26 p1c = rp1 ∧ ccode Tryd.prog pl26 p2c = rp2 ∧ ccode Tryd.prog pl26 p3c = rp3 ∧ ccode Tryd.prog pl26 xc = x26 ∧ ccode Tryd.prog pl26 yc = y26 ∧ ccode Tryd.prog pl26 tc = t26 := by
  refine ⟨?_, ?_, ?_, ?_, ?_, ?_⟩ <;> kernel_rfl
theorem ga26 : guardsAll pl26 p1c = true ∧ guardsAll pl26 p2c = true ∧ guardsAll pl26 p3c = true ∧ guardsAll pl26 xc = true ∧ guardsAll pl26 yc = true ∧ guardsAll pl26 tc = true ∧ noRange xc = true ∧ noRange yc = true := by
  refine ⟨?_, ?_, ?_, ?_, ?_, ?_, ?_, ?_⟩ <;> kernel_rfl
theorem snd26 (c : Code) : Sound Tryd.prog GY pl26 c := vc_sound GY_ok mixed pl26 (fun g s hs => by rw [show bkOf (pl26 999999) = [] from rfl] at hs; cases hs) c
theorem snd45 (c : Code) : Sound Tryd.prog GY pl45 c := vc_sound GY_ok mixed pl45 (fun g s hs => by rw [show bkOf (pl45 999999) = [] from rfl] at hs; cases hs) c
noncomputable def aC : Code := match code45 with | .seq a _ => a | _ => .skip
noncomputable def bC : Code := match code45 with | .seq _ (.block _ (.loop (.seq b _))) => b | _ => .skip
noncomputable def cC : Code := match code45 with | .seq _ (.block _ (.loop (.seq _ (.seq _ (.seq (.block _ (.seq c _)) _))))) => c | _ => .skip
noncomputable def dId : Nat := match code45 with | .seq _ (.block _ (.loop (.seq _ (.seq _ (.seq (.block _ (.seq _ (.seq (.region i _ _) _))) _))))) => i | _ => 0
noncomputable def eC : Code := match code45 with | .seq _ (.block _ (.loop (.seq _ (.seq _ (.seq _ e))))) => e | _ => .skip
theorem code45_eq : code45 = .seq aC (.block 0 (.loop (.seq bC (.seq (.cond (.tmp 10) .skip (.exit 0)) (.seq (.block 1 (.seq cC (.seq (.region dId opsD true) (.cond (.tmp 24) .ret .skip)))) eC))))) := by kernel_rfl
theorem body45 : Tryd.f45.body = some code45 := by kernel_rfl
theorem cc45 : ccode Tryd.prog pl45 aC = rA ∧ ccode Tryd.prog pl45 bC = rB ∧ ccode Tryd.prog pl45 cC = rC ∧ ccode Tryd.prog pl45 eC = rE := by
  refine ⟨?_, ?_, ?_, ?_⟩ <;> kernel_rfl
theorem ga45 : guardsAll pl45 aC = true ∧ guardsAll pl45 bC = true ∧ guardsAll pl45 cC = true ∧ guardsAll pl45 eC = true ∧ guardsOK opsP = true ∧ noDefer opsP = true ∧ Region.noSelect opsP = true := by
  refine ⟨?_, ?_, ?_, ?_, ?_, ?_, ?_⟩ <;> kernel_rfl
end Go.Proofs.YthomcgclkbmnkaaDoor
