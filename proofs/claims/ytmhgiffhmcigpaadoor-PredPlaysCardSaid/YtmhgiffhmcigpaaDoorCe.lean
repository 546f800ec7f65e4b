/-
  The table with New's contract.
-/
import Derived.Test.YtmhgiffhmcigpaaDoorCd
namespace Go.Proofs.YtmhgiffhmcigpaaDoor
open Go Go.Vc
set_option maxRecDepth 100000
set_option linter.unusedSimpArgs false
set_option linter.unusedVariables false
noncomputable def specs1 : Nat → Option Vc.Trans := tget [(8, frameT newS)]
noncomputable def G1 : Nat → Option Vc.Trans := tabG specs1 (tget tab) 5
theorem G1_ok : GOK Tryd.prog G1 := tabG_ok (GOK.cons (frame_ok new_ok) .nil) tab_ok 5

end Go.Proofs.YtmhgiffhmcigpaaDoor
