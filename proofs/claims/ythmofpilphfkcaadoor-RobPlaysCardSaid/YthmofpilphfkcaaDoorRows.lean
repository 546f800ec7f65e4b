/-
  NARROWER THAN 'FOR EVERY INPUT', by the rows' own cells (each row's printed sentence says how): RobOrder: laid · RobCuts: laid · RobPlays: laid.
  DERIVED. THE GIVEN ROWS OF THIS SEAT. 3 by the template 'for every input the law returns true; each argument reads behind the call as it read before'; 0 by the template 'total and deterministic' (their statements: YthmofpilphfkcaaDoorTotals.lean).
  GIVEN WITH THE SEED: the statements are not yours to turn. If you find one false, say at which input.
  Laid BY PROGRAM, IN A SANDBOX (cutbox-rows.mjs): the forced cells as the released guide's own fill.sh prints them over the translation 8c53165b128f249b… (all of the seat's roots in one cut). By AI agents, Wed Nov 11 2026. No macro, syntax, notation, axiom, sorry.
-/
import Derived.Test.YthmofpilphfkcaaDoorChecked
import GoSem.Claim
import GoSem.ClaimJoined
import GoSem.ClaimMapViews
import Derived.JoinedTies
import Derived.KernelRfl
namespace Go.Proofs.YthmofpilphfkcaaDoor
/- THE CELL 'sum', in the pinned program and in every row, IS THE sha256 OF THE DUMP (.gsa) THAT YthmofpilphfkcaaDoorProg.lean LOADS. Nothing in Lean hashes anything: it is a label: what it is worth is what the hold of that sum in a sandbox is worth. -/
noncomputable def Tryd.pinned : Pinned := { name := "ythmofpilphfkcaadoor", sum := "8c53165b128f249b9663ef2d9ad08f5c47dbdf5469d24ffb057c00671e2cc665", checked := Tryd.checked }
namespace Rows
def none {H : Type} : Left H := { results := [], args := [] }

/- WHAT THE LISTED PACKAGE-LEVEL VARIABLES READ AS WHEN THE CALL BEGINS. Each datum BY PROGRAM (the guide's laid-datum.mjs) off the statement by which the dump's own 'gosem.cut.vars' lays the variable. In a bare row this is a premise. The card (YthmofpilphfkcaaDoorCards.lean) ties it to the program's text. -/
def laid_corral_api_ErrRange {H : Type} : DataW H := .iface "*errors.errorString" (.ptr (.agg [.lit (.string [97, 32, 110, 117, 109, 98, 101, 114, 32, 111, 117, 116, 32, 111, 102, 32, 105, 116, 115, 32, 114, 97, 110, 103, 101])]))
def laid_corral_api_ErrMany {H : Type} : DataW H := .iface "*errors.errorString" (.ptr (.agg [.lit (.string [116, 111, 111, 32, 109, 97, 110, 121])]))
def laid_corral_api_ErrKind {H : Type} : DataW H := .iface "*errors.errorString" (.ptr (.agg [.lit (.string [110, 111, 32, 115, 117, 99, 104, 32, 107, 105, 110, 100])]))
def laid_corral_api_ErrPlace {H : Type} : DataW H := .iface "*errors.errorString" (.ptr (.agg [.lit (.string [110, 111, 32, 115, 117, 99, 104, 32, 112, 108, 97, 99, 101])]))
def laid_corral_api_ErrShape {H : Type} : DataW H := .iface "*errors.errorString" (.ptr (.agg [.lit (.string [110, 111, 116, 32, 116, 104, 101, 32, 115, 104, 97, 112, 101, 32, 116, 104, 97, 116, 32, 105, 116, 32, 104, 97, 115, 32, 116, 111, 32, 104, 97, 118, 101])]))
def laid_corral_api_ErrWord {H : Type} : DataW H := .iface "*errors.errorString" (.ptr (.agg [.lit (.string [110, 111, 32, 115, 117, 99, 104, 32, 119, 111, 114, 100])]))
def laid_corral_api_ErrFull {H : Type} : DataW H := .iface "*errors.errorString" (.ptr (.agg [.lit (.string [110, 111, 32, 114, 111, 111, 109])]))
def laid_corral_api_ErrNone {H : Type} : DataW H := .iface "*errors.errorString" (.ptr (.agg [.lit (.string [116, 104, 101, 114, 101, 32, 105, 115, 32, 110, 111, 110, 101])]))
def laid_corral_api_ErrTrace {H : Type} : DataW H := .iface "*errors.errorString" (.ptr (.agg [.lit (.string [110, 111, 32, 114, 117, 110, 32, 111, 102, 32, 116, 104, 101, 32, 105, 110, 115, 116, 114, 117, 99, 116, 105, 111, 110, 115])]))
def laid_corral_api_ErrOrder {H : Type} : DataW H := .iface "*errors.errorString" (.ptr (.agg [.lit (.string [97, 110, 32, 111, 114, 100, 101, 114, 32, 116, 104, 97, 116, 32, 109, 97, 121, 32, 110, 111, 116, 32, 98, 101])]))
def laid_corral_api_ErrValue {H : Type} : DataW H := .iface "*errors.errorString" (.ptr (.agg [.lit (.string [97, 32, 118, 97, 108, 117, 101, 32, 116, 104, 97, 116, 32, 119, 97, 115, 32, 110, 111, 116, 32, 116, 104, 101, 114, 101])]))

/-- 'corrallaw24.RobOrder': WHATEVER THE INPUT: true; the input reads as it did. -/
def robOrderSpec : ChangeSpec := { name := "robOrder", fn := fun _ => fun
  | [d1, d2] => { results := [.lit (.bool true)], args := [d1, d2] }
  | _ => none }
def robOrderRow : OpenClaim := { program := "ythmofpilphfkcaadoor", sum := "8c53165b128f249b9663ef2d9ad08f5c47dbdf5469d24ffb057c00671e2cc665", func := "corral/corrallaw24.RobOrder", spec := "robOrder", named := ["corral/api.ErrRange"], apart := false, laid := [("corral/api.ErrRange", laid_corral_api_ErrRange)] }
def RobOrderSaid : Prop := robOrderRow.holds Tryd.pinned (OpenSpec.ofChange robOrderSpec)

/-- ITS FALSE NEIGHBOUR: 'it returns false'. Refute it at one input. -/
def robOrderWrong : ChangeSpec := { name := "robOrder", fn := fun _ => fun
  | [d1, d2] => { results := [.lit (.bool false)], args := [d1, d2] }
  | _ => none }
def RobOrderWrongFalsely : Prop := robOrderRow.holds Tryd.pinned (OpenSpec.ofChange robOrderWrong)

/-- 'corrallaw24.RobCuts': WHATEVER THE INPUT: true; the input reads as it did. -/
def robCutsSpec : ChangeSpec := { name := "robCuts", fn := fun _ => fun
  | [d1, d2, d3] => { results := [.lit (.bool true)], args := [d1, d2, d3] }
  | _ => none }
def robCutsRow : OpenClaim := { program := "ythmofpilphfkcaadoor", sum := "8c53165b128f249b9663ef2d9ad08f5c47dbdf5469d24ffb057c00671e2cc665", func := "corral/corrallaw24.RobCuts", spec := "robCuts", unfollowed := true, recurses := true, named := ["corral/api.ErrRange"], apart := false, laid := [("corral/api.ErrRange", laid_corral_api_ErrRange)] }
def RobCutsSaid : Prop := robCutsRow.holds Tryd.pinned (OpenSpec.ofChange robCutsSpec)

/-- ITS FALSE NEIGHBOUR: 'it returns false'. Refute it at one input. -/
def robCutsWrong : ChangeSpec := { name := "robCuts", fn := fun _ => fun
  | [d1, d2, d3] => { results := [.lit (.bool false)], args := [d1, d2, d3] }
  | _ => none }
def RobCutsWrongFalsely : Prop := robCutsRow.holds Tryd.pinned (OpenSpec.ofChange robCutsWrong)

/-- 'corrallaw24.RobPlays': WHATEVER THE INPUT: true; the input reads as it did. -/
def robPlaysSpec : ChangeSpec := { name := "robPlays", fn := fun _ => fun
  | [d1, d2] => { results := [.lit (.bool true)], args := [d1, d2] }
  | _ => none }
def robPlaysRow : OpenClaim := { program := "ythmofpilphfkcaadoor", sum := "8c53165b128f249b9663ef2d9ad08f5c47dbdf5469d24ffb057c00671e2cc665", func := "corral/corrallaw24.RobPlays", spec := "robPlays", unfollowed := true, recurses := true, named := ["corral/api.ErrRange", "corral/api.ErrMany", "corral/api.ErrKind", "corral/api.ErrPlace", "corral/api.ErrShape", "corral/api.ErrWord", "corral/api.ErrFull", "corral/api.ErrNone", "corral/api.ErrTrace", "corral/api.ErrOrder", "corral/api.ErrValue"], apart := false, laid := [("corral/api.ErrMany", laid_corral_api_ErrMany), ("corral/api.ErrKind", laid_corral_api_ErrKind), ("corral/api.ErrPlace", laid_corral_api_ErrPlace), ("corral/api.ErrShape", laid_corral_api_ErrShape), ("corral/api.ErrWord", laid_corral_api_ErrWord), ("corral/api.ErrRange", laid_corral_api_ErrRange), ("corral/api.ErrFull", laid_corral_api_ErrFull), ("corral/api.ErrNone", laid_corral_api_ErrNone), ("corral/api.ErrTrace", laid_corral_api_ErrTrace), ("corral/api.ErrOrder", laid_corral_api_ErrOrder), ("corral/api.ErrValue", laid_corral_api_ErrValue)] }
def RobPlaysSaid : Prop := robPlaysRow.holds Tryd.pinned (OpenSpec.ofChange robPlaysSpec)

/-- ITS FALSE NEIGHBOUR: 'it returns false'. Refute it at one input. -/
def robPlaysWrong : ChangeSpec := { name := "robPlays", fn := fun _ => fun
  | [d1, d2] => { results := [.lit (.bool false)], args := [d1, d2] }
  | _ => none }
def RobPlaysWrongFalsely : Prop := robPlaysRow.holds Tryd.pinned (OpenSpec.ofChange robPlaysWrong)

/- THE SECOND FORM. 'bulk': how many values and letters a reading holds, each counted each time it is reached (what is shared counts as often as it is met; a slice's spare places count too). A statement '..UptoSaid' is the law's where the arguments, and the package variables that the reading takes, are together of bulk at most 1048576: NARROWER than '..Said'. Prove '..Said' where nothing that the law and all that it calls make is longer than what came in: it says more and counts as full. Else prove '..UptoSaid'. A law counts once. -/
mutual
def uptoBulk {H : Type} : DataW H → Nat
  | .lit (.string bytes) => bytes.length + 1
  | .lit _ => 1
  | .nil => 1
  | .ptr d => uptoBulk d + 1
  | .slice elems spare => uptoBulkAll elems + uptoBulkAll spare + 1
  | .agg parts => uptoBulkAll parts + 1
  | .iface _ d => uptoBulk d + 1
  | .map entries => uptoBulkEntries entries + 1
  | .held _ => 1
def uptoBulkAll {H : Type} : List (DataW H) → Nat
  | [] => 0
  | d :: r => uptoBulk d + uptoBulkAll r
def uptoBulkEntries {H : Type} : List (Lit × DataW H) → Nat
  | [] => 0
  | x :: r => uptoBulkEntry x + uptoBulkEntries r
def uptoBulkEntry {H : Type} : Lit × DataW H → Nat
  | (.string bytes, d) => bytes.length + uptoBulk d + 1
  | (_, d) => uptoBulk d + 1
 end
def uptoSmall : (H : Type) → List (DataW H) → Bool := fun _ ds => decide (uptoBulkAll ds ≤ 1048576)
def OpenSpec.upto (s : _root_.Go.ChangeSpec) : _root_.Go.OpenSpec := { _root_.Go.OpenSpec.ofChange s with cond := some uptoSmall }

/-- 'corrallaw24.RobOrder', WHERE WHAT IT READS IS OF BULK AT MOST 1048576: true; the input reads as it did. -/
def robOrderUptoRow : OpenClaim := { program := "ythmofpilphfkcaadoor", sum := "8c53165b128f249b9663ef2d9ad08f5c47dbdf5469d24ffb057c00671e2cc665", func := "corral/corrallaw24.RobOrder", spec := "robOrder", named := ["corral/api.ErrRange"], apart := false, laid := [("corral/api.ErrRange", laid_corral_api_ErrRange)], narrowed := true }
def RobOrderUptoSaid : Prop := robOrderUptoRow.holds Tryd.pinned (OpenSpec.upto robOrderSpec)

/-- 'corrallaw24.RobCuts', WHERE WHAT IT READS IS OF BULK AT MOST 1048576: true; the input reads as it did. -/
def robCutsUptoRow : OpenClaim := { program := "ythmofpilphfkcaadoor", sum := "8c53165b128f249b9663ef2d9ad08f5c47dbdf5469d24ffb057c00671e2cc665", func := "corral/corrallaw24.RobCuts", spec := "robCuts", unfollowed := true, recurses := true, named := ["corral/api.ErrRange"], apart := false, laid := [("corral/api.ErrRange", laid_corral_api_ErrRange)], narrowed := true }
def RobCutsUptoSaid : Prop := robCutsUptoRow.holds Tryd.pinned (OpenSpec.upto robCutsSpec)

/-- 'corrallaw24.RobPlays', WHERE WHAT IT READS IS OF BULK AT MOST 1048576: true; the input reads as it did. -/
def robPlaysUptoRow : OpenClaim := { program := "ythmofpilphfkcaadoor", sum := "8c53165b128f249b9663ef2d9ad08f5c47dbdf5469d24ffb057c00671e2cc665", func := "corral/corrallaw24.RobPlays", spec := "robPlays", unfollowed := true, recurses := true, named := ["corral/api.ErrRange", "corral/api.ErrMany", "corral/api.ErrKind", "corral/api.ErrPlace", "corral/api.ErrShape", "corral/api.ErrWord", "corral/api.ErrFull", "corral/api.ErrNone", "corral/api.ErrTrace", "corral/api.ErrOrder", "corral/api.ErrValue"], apart := false, laid := [("corral/api.ErrMany", laid_corral_api_ErrMany), ("corral/api.ErrKind", laid_corral_api_ErrKind), ("corral/api.ErrPlace", laid_corral_api_ErrPlace), ("corral/api.ErrShape", laid_corral_api_ErrShape), ("corral/api.ErrWord", laid_corral_api_ErrWord), ("corral/api.ErrRange", laid_corral_api_ErrRange), ("corral/api.ErrFull", laid_corral_api_ErrFull), ("corral/api.ErrNone", laid_corral_api_ErrNone), ("corral/api.ErrTrace", laid_corral_api_ErrTrace), ("corral/api.ErrOrder", laid_corral_api_ErrOrder), ("corral/api.ErrValue", laid_corral_api_ErrValue)], narrowed := true }
def RobPlaysUptoSaid : Prop := robPlaysUptoRow.holds Tryd.pinned (OpenSpec.upto robPlaysSpec)

end Rows
end Go.Proofs.YthmofpilphfkcaaDoor
