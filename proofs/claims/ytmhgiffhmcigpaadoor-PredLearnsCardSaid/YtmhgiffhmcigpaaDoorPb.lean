/-
  The table of those programs.
-/
import Derived.Test.YtmhgiffhmcigpaaDoorPa
import Derived.Test.YtmhgiffhmcigpaaDoorVcs
namespace Go.Proofs.YtmhgiffhmcigpaaDoor
open Go Go.Vc
set_option maxRecDepth 100000
def tab : List (Nat × PFn) := [(3, pf3), (7, pf7), (8, pf8), (9, pf9), (10, pf10), (11, pf11), (27, pf27), (28, pf28), (37, pf37)]
theorem tab_ok : TabOK Tryd.prog tab :=
  .cons mixed at3 pf3_eq (.cons mixed at7 pf7_eq (.cons mixed at8 pf8_eq (.cons mixed at9 pf9_eq (.cons mixed at10 pf10_eq (.cons mixed at11 pf11_eq (.cons mixed at27 pf27_eq (.cons mixed at28 pf28_eq (.cons mixed at37 pf37_eq .nil))))))))
noncomputable def G0 : Nat → Option Trans := tabG (tget []) (tget tab) 5
theorem G0_ok : GOK Tryd.prog G0 := tabG_ok .nil tab_ok 5

end Go.Proofs.YtmhgiffhmcigpaaDoor
