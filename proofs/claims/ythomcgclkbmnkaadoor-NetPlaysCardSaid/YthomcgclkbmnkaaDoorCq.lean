/-
  Each's closure: its code by parts.
-/
import Derived.Test.YthomcgclkbmnkaaDoorCp
import Derived.Test.YthomcgclkbmnkaaDoorVcn3
namespace Go.Proofs.YthomcgclkbmnkaaDoor
open Go Go.Vc
set_option maxRecDepth 100000
set_option linter.unusedSimpArgs false
set_option linter.unusedVariables false
set_option maxHeartbeats 4000000
noncomputable def code45 : Code := Tryd.f45.body.getD .skip
noncomputable def opsA : Array Oper := match code45 with | .seq (.region _ o _) _ => o | _ => #[]
noncomputable def opsB : Array Oper := match code45 with | .seq _ (.block _ (.loop (.seq (.region _ o _) _))) => o | _ => #[]
noncomputable def opsC : Array Oper := match code45 with | .seq _ (.block _ (.loop (.seq _ (.seq _ (.seq (.block _ (.seq (.region _ o _) _)) _))))) => o | _ => #[]
noncomputable def opsD : Array Oper := match code45 with | .seq _ (.block _ (.loop (.seq _ (.seq _ (.seq (.block _ (.seq _ (.seq (.region _ o _) _))) _))))) => o | _ => #[]
noncomputable def opsE : Array Oper := match code45 with | .seq _ (.block _ (.loop (.seq _ (.seq _ (.seq _ (.region _ o _)))))) => o | _ => #[]
theorem code45_shape : (match code45 with | .seq (.region _ _ false) (.block 0 (.loop (.seq (.region _ _ false) (.seq (.cond (.tmp 10) .skip (.exit 0)) (.seq (.block 1 (.seq (.region _ _ false) (.seq (.region _ _ true) (.cond (.tmp 24) .ret .skip)))) (.region _ _ false)))))) => true | _ => false) = true := by kernel_rfl
noncomputable def opsP : Array Oper := opsD.extract 0 9
theorem split45 : splitOK opsD opsP [9, 10, 11] 9 (Array.replicate 12 false) (Array.replicate 9 false) = true := by kernel_rfl
theorem sizes45 : opsD.size = 12 ∧ opsP.size = 9 := by constructor <;> kernel_rfl
end Go.Proofs.YthomcgclkbmnkaaDoor
