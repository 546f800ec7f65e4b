/-
  NARROWER THAN 'FOR EVERY INPUT', by the rows' own cells (each row's printed sentence says how): WmoInTurn: laid · WmoForwards: laid · WmoHands: laid · WmoAlone: laid · WmoMixed: laid · LitmusOne: laid · LitmusFences: laid · LitmusSwaps: laid · LitmusHands: laid.
  DERIVED. THE GIVEN ROWS OF THIS SEAT. 9 by the template 'for every input the law returns true; each argument reads behind the call as it read before'; 0 by the template 'total and deterministic' (their statements: YtkfkoldaeplckaaDoorTotals.lean).
  GIVEN WITH THE SEED: the statements are not yours to turn. If you find one false, say at which input.
  Laid BY PROGRAM, IN A SANDBOX (cutbox-rows.mjs): the forced cells as the released guide's own fill.sh prints them over the translation c105e021b85250a2… (all of the seat's roots in one cut). By AI agents, Wed Nov 11 2026. No macro, syntax, notation, axiom, sorry.
-/
import Derived.Test.YtkfkoldaeplckaaDoorChecked
import GoSem.Claim
import GoSem.ClaimJoined
import GoSem.ClaimMapViews
import Derived.JoinedTies
import Derived.KernelRfl
namespace Go.Proofs.YtkfkoldaeplckaaDoor
/- THE CELL 'sum', in the pinned program and in every row, IS THE sha256 OF THE DUMP (.gsa) THAT YtkfkoldaeplckaaDoorProg.lean LOADS. Nothing in Lean hashes anything: it is a label: what it is worth is what the hold of that sum in a sandbox is worth. -/
noncomputable def Tryd.pinned : Pinned := { name := "ytkfkoldaeplckaadoor", sum := "c105e021b85250a2469270e7014a2970e079068e32cc151bfcc1a6984301024a", checked := Tryd.checked }
namespace Rows
def none {H : Type} : Left H := { results := [], args := [] }

/- WHAT THE LISTED PACKAGE-LEVEL VARIABLES READ AS WHEN THE CALL BEGINS. Each datum BY PROGRAM (the guide's laid-datum.mjs) off the statement by which the dump's own 'gosem.cut.vars' lays the variable. In a bare row this is a premise. The card (YtkfkoldaeplckaaDoorCards.lean) ties it to the program's text. -/
def laid_corral_api_ErrMany {H : Type} : DataW H := .iface "*errors.errorString" (.ptr (.agg [.lit (.string [116, 111, 111, 32, 109, 97, 110, 121])]))
def laid_corral_api_ErrKind {H : Type} : DataW H := .iface "*errors.errorString" (.ptr (.agg [.lit (.string [110, 111, 32, 115, 117, 99, 104, 32, 107, 105, 110, 100])]))
def laid_corral_api_ErrPlace {H : Type} : DataW H := .iface "*errors.errorString" (.ptr (.agg [.lit (.string [110, 111, 32, 115, 117, 99, 104, 32, 112, 108, 97, 99, 101])]))
def laid_corral_api_ErrShape {H : Type} : DataW H := .iface "*errors.errorString" (.ptr (.agg [.lit (.string [110, 111, 116, 32, 116, 104, 101, 32, 115, 104, 97, 112, 101, 32, 116, 104, 97, 116, 32, 105, 116, 32, 104, 97, 115, 32, 116, 111, 32, 104, 97, 118, 101])]))
def laid_corral_api_ErrWord {H : Type} : DataW H := .iface "*errors.errorString" (.ptr (.agg [.lit (.string [110, 111, 32, 115, 117, 99, 104, 32, 119, 111, 114, 100])]))
def laid_corral_api_ErrRange {H : Type} : DataW H := .iface "*errors.errorString" (.ptr (.agg [.lit (.string [97, 32, 110, 117, 109, 98, 101, 114, 32, 111, 117, 116, 32, 111, 102, 32, 105, 116, 115, 32, 114, 97, 110, 103, 101])]))
def laid_corral_api_ErrFull {H : Type} : DataW H := .iface "*errors.errorString" (.ptr (.agg [.lit (.string [110, 111, 32, 114, 111, 111, 109])]))
def laid_corral_api_ErrNone {H : Type} : DataW H := .iface "*errors.errorString" (.ptr (.agg [.lit (.string [116, 104, 101, 114, 101, 32, 105, 115, 32, 110, 111, 110, 101])]))
def laid_corral_api_ErrTrace {H : Type} : DataW H := .iface "*errors.errorString" (.ptr (.agg [.lit (.string [110, 111, 32, 114, 117, 110, 32, 111, 102, 32, 116, 104, 101, 32, 105, 110, 115, 116, 114, 117, 99, 116, 105, 111, 110, 115])]))
def laid_corral_api_ErrOrder {H : Type} : DataW H := .iface "*errors.errorString" (.ptr (.agg [.lit (.string [97, 110, 32, 111, 114, 100, 101, 114, 32, 116, 104, 97, 116, 32, 109, 97, 121, 32, 110, 111, 116, 32, 98, 101])]))
def laid_corral_api_ErrValue {H : Type} : DataW H := .iface "*errors.errorString" (.ptr (.agg [.lit (.string [97, 32, 118, 97, 108, 117, 101, 32, 116, 104, 97, 116, 32, 119, 97, 115, 32, 110, 111, 116, 32, 116, 104, 101, 114, 101])]))

/-- 'corrallaw14.WmoInTurn': WHATEVER THE INPUT: true; the input reads as it did. -/
def wmoInTurnSpec : ChangeSpec := { name := "wmoInTurn", fn := fun _ => fun
  | [d1, d2, d3] => { results := [.lit (.bool true)], args := [d1, d2, d3] }
  | _ => none }
def wmoInTurnRow : OpenClaim := { program := "ytkfkoldaeplckaadoor", sum := "c105e021b85250a2469270e7014a2970e079068e32cc151bfcc1a6984301024a", func := "corral/corrallaw14.WmoInTurn", spec := "wmoInTurn", unfollowed := true, recurses := true, named := ["corral/api.ErrMany", "corral/api.ErrShape", "corral/api.ErrOrder", "corral/api.ErrValue", "corral/api.ErrKind", "corral/api.ErrPlace", "corral/api.ErrWord", "corral/api.ErrRange", "corral/api.ErrFull", "corral/api.ErrNone", "corral/api.ErrTrace"], plainKeys := false, apart := false, laid := [("corral/api.ErrMany", laid_corral_api_ErrMany), ("corral/api.ErrKind", laid_corral_api_ErrKind), ("corral/api.ErrPlace", laid_corral_api_ErrPlace), ("corral/api.ErrShape", laid_corral_api_ErrShape), ("corral/api.ErrWord", laid_corral_api_ErrWord), ("corral/api.ErrRange", laid_corral_api_ErrRange), ("corral/api.ErrFull", laid_corral_api_ErrFull), ("corral/api.ErrNone", laid_corral_api_ErrNone), ("corral/api.ErrTrace", laid_corral_api_ErrTrace), ("corral/api.ErrOrder", laid_corral_api_ErrOrder), ("corral/api.ErrValue", laid_corral_api_ErrValue)] }
def WmoInTurnSaid : Prop := wmoInTurnRow.holds Tryd.pinned (OpenSpec.ofChange wmoInTurnSpec)

/-- ITS FALSE NEIGHBOUR: 'it returns false'. Refute it at one input. -/
def wmoInTurnWrong : ChangeSpec := { name := "wmoInTurn", fn := fun _ => fun
  | [d1, d2, d3] => { results := [.lit (.bool false)], args := [d1, d2, d3] }
  | _ => none }
def WmoInTurnWrongFalsely : Prop := wmoInTurnRow.holds Tryd.pinned (OpenSpec.ofChange wmoInTurnWrong)

/-- 'corrallaw14.WmoForwards': WHATEVER THE INPUT: true; the input reads as it did. -/
def wmoForwardsSpec : ChangeSpec := { name := "wmoForwards", fn := fun _ => fun
  | [d1, d2] => { results := [.lit (.bool true)], args := [d1, d2] }
  | _ => none }
def wmoForwardsRow : OpenClaim := { program := "ytkfkoldaeplckaadoor", sum := "c105e021b85250a2469270e7014a2970e079068e32cc151bfcc1a6984301024a", func := "corral/corrallaw14.WmoForwards", spec := "wmoForwards", unfollowed := true, recurses := true, named := ["corral/api.ErrMany", "corral/api.ErrShape", "corral/api.ErrOrder", "corral/api.ErrValue", "corral/api.ErrKind", "corral/api.ErrPlace", "corral/api.ErrWord", "corral/api.ErrRange", "corral/api.ErrFull", "corral/api.ErrNone", "corral/api.ErrTrace"], plainKeys := false, apart := false, laid := [("corral/api.ErrMany", laid_corral_api_ErrMany), ("corral/api.ErrKind", laid_corral_api_ErrKind), ("corral/api.ErrPlace", laid_corral_api_ErrPlace), ("corral/api.ErrShape", laid_corral_api_ErrShape), ("corral/api.ErrWord", laid_corral_api_ErrWord), ("corral/api.ErrRange", laid_corral_api_ErrRange), ("corral/api.ErrFull", laid_corral_api_ErrFull), ("corral/api.ErrNone", laid_corral_api_ErrNone), ("corral/api.ErrTrace", laid_corral_api_ErrTrace), ("corral/api.ErrOrder", laid_corral_api_ErrOrder), ("corral/api.ErrValue", laid_corral_api_ErrValue)] }
def WmoForwardsSaid : Prop := wmoForwardsRow.holds Tryd.pinned (OpenSpec.ofChange wmoForwardsSpec)

/-- ITS FALSE NEIGHBOUR: 'it returns false'. Refute it at one input. -/
def wmoForwardsWrong : ChangeSpec := { name := "wmoForwards", fn := fun _ => fun
  | [d1, d2] => { results := [.lit (.bool false)], args := [d1, d2] }
  | _ => none }
def WmoForwardsWrongFalsely : Prop := wmoForwardsRow.holds Tryd.pinned (OpenSpec.ofChange wmoForwardsWrong)

/-- 'corrallaw14.WmoHands': WHATEVER THE INPUT: true; the input reads as it did. -/
def wmoHandsSpec : ChangeSpec := { name := "wmoHands", fn := fun _ => fun
  | [d1, d2, d3] => { results := [.lit (.bool true)], args := [d1, d2, d3] }
  | _ => none }
def wmoHandsRow : OpenClaim := { program := "ytkfkoldaeplckaadoor", sum := "c105e021b85250a2469270e7014a2970e079068e32cc151bfcc1a6984301024a", func := "corral/corrallaw14.WmoHands", spec := "wmoHands", unfollowed := true, recurses := true, named := ["corral/api.ErrMany", "corral/api.ErrShape", "corral/api.ErrOrder", "corral/api.ErrValue", "corral/api.ErrKind", "corral/api.ErrPlace", "corral/api.ErrWord", "corral/api.ErrRange", "corral/api.ErrFull", "corral/api.ErrNone", "corral/api.ErrTrace"], plainKeys := false, apart := false, laid := [("corral/api.ErrMany", laid_corral_api_ErrMany), ("corral/api.ErrKind", laid_corral_api_ErrKind), ("corral/api.ErrPlace", laid_corral_api_ErrPlace), ("corral/api.ErrShape", laid_corral_api_ErrShape), ("corral/api.ErrWord", laid_corral_api_ErrWord), ("corral/api.ErrRange", laid_corral_api_ErrRange), ("corral/api.ErrFull", laid_corral_api_ErrFull), ("corral/api.ErrNone", laid_corral_api_ErrNone), ("corral/api.ErrTrace", laid_corral_api_ErrTrace), ("corral/api.ErrOrder", laid_corral_api_ErrOrder), ("corral/api.ErrValue", laid_corral_api_ErrValue)] }
def WmoHandsSaid : Prop := wmoHandsRow.holds Tryd.pinned (OpenSpec.ofChange wmoHandsSpec)

/-- ITS FALSE NEIGHBOUR: 'it returns false'. Refute it at one input. -/
def wmoHandsWrong : ChangeSpec := { name := "wmoHands", fn := fun _ => fun
  | [d1, d2, d3] => { results := [.lit (.bool false)], args := [d1, d2, d3] }
  | _ => none }
def WmoHandsWrongFalsely : Prop := wmoHandsRow.holds Tryd.pinned (OpenSpec.ofChange wmoHandsWrong)

/-- 'corrallaw14.WmoAlone': WHATEVER THE INPUT: true; the input reads as it did. -/
def wmoAloneSpec : ChangeSpec := { name := "wmoAlone", fn := fun _ => fun
  | [d1, d2, d3, d4] => { results := [.lit (.bool true)], args := [d1, d2, d3, d4] }
  | _ => none }
def wmoAloneRow : OpenClaim := { program := "ytkfkoldaeplckaadoor", sum := "c105e021b85250a2469270e7014a2970e079068e32cc151bfcc1a6984301024a", func := "corral/corrallaw14.WmoAlone", spec := "wmoAlone", unfollowed := true, recurses := true, named := ["corral/api.ErrMany", "corral/api.ErrShape", "corral/api.ErrOrder", "corral/api.ErrValue", "corral/api.ErrKind", "corral/api.ErrPlace", "corral/api.ErrWord", "corral/api.ErrRange", "corral/api.ErrFull", "corral/api.ErrNone", "corral/api.ErrTrace"], plainKeys := false, apart := false, laid := [("corral/api.ErrMany", laid_corral_api_ErrMany), ("corral/api.ErrKind", laid_corral_api_ErrKind), ("corral/api.ErrPlace", laid_corral_api_ErrPlace), ("corral/api.ErrShape", laid_corral_api_ErrShape), ("corral/api.ErrWord", laid_corral_api_ErrWord), ("corral/api.ErrRange", laid_corral_api_ErrRange), ("corral/api.ErrFull", laid_corral_api_ErrFull), ("corral/api.ErrNone", laid_corral_api_ErrNone), ("corral/api.ErrTrace", laid_corral_api_ErrTrace), ("corral/api.ErrOrder", laid_corral_api_ErrOrder), ("corral/api.ErrValue", laid_corral_api_ErrValue)] }
def WmoAloneSaid : Prop := wmoAloneRow.holds Tryd.pinned (OpenSpec.ofChange wmoAloneSpec)

/-- ITS FALSE NEIGHBOUR: 'it returns false'. Refute it at one input. -/
def wmoAloneWrong : ChangeSpec := { name := "wmoAlone", fn := fun _ => fun
  | [d1, d2, d3, d4] => { results := [.lit (.bool false)], args := [d1, d2, d3, d4] }
  | _ => none }
def WmoAloneWrongFalsely : Prop := wmoAloneRow.holds Tryd.pinned (OpenSpec.ofChange wmoAloneWrong)

/-- 'corrallaw14.WmoMixed': WHATEVER THE INPUT: true; the input reads as it did. -/
def wmoMixedSpec : ChangeSpec := { name := "wmoMixed", fn := fun _ => fun
  | [d1, d2] => { results := [.lit (.bool true)], args := [d1, d2] }
  | _ => none }
def wmoMixedRow : OpenClaim := { program := "ytkfkoldaeplckaadoor", sum := "c105e021b85250a2469270e7014a2970e079068e32cc151bfcc1a6984301024a", func := "corral/corrallaw14.WmoMixed", spec := "wmoMixed", unfollowed := true, recurses := true, named := ["corral/api.ErrMany", "corral/api.ErrShape", "corral/api.ErrOrder", "corral/api.ErrValue", "corral/api.ErrKind", "corral/api.ErrPlace", "corral/api.ErrWord", "corral/api.ErrRange", "corral/api.ErrFull", "corral/api.ErrNone", "corral/api.ErrTrace"], plainKeys := false, apart := false, laid := [("corral/api.ErrMany", laid_corral_api_ErrMany), ("corral/api.ErrKind", laid_corral_api_ErrKind), ("corral/api.ErrPlace", laid_corral_api_ErrPlace), ("corral/api.ErrShape", laid_corral_api_ErrShape), ("corral/api.ErrWord", laid_corral_api_ErrWord), ("corral/api.ErrRange", laid_corral_api_ErrRange), ("corral/api.ErrFull", laid_corral_api_ErrFull), ("corral/api.ErrNone", laid_corral_api_ErrNone), ("corral/api.ErrTrace", laid_corral_api_ErrTrace), ("corral/api.ErrOrder", laid_corral_api_ErrOrder), ("corral/api.ErrValue", laid_corral_api_ErrValue)] }
def WmoMixedSaid : Prop := wmoMixedRow.holds Tryd.pinned (OpenSpec.ofChange wmoMixedSpec)

/-- ITS FALSE NEIGHBOUR: 'it returns false'. Refute it at one input. -/
def wmoMixedWrong : ChangeSpec := { name := "wmoMixed", fn := fun _ => fun
  | [d1, d2] => { results := [.lit (.bool false)], args := [d1, d2] }
  | _ => none }
def WmoMixedWrongFalsely : Prop := wmoMixedRow.holds Tryd.pinned (OpenSpec.ofChange wmoMixedWrong)

/-- 'corrallaw15.LitmusOne': WHATEVER THE INPUT: true; the input reads as it did. -/
def litmusOneSpec : ChangeSpec := { name := "litmusOne", fn := fun _ => fun
  | [d] => { results := [.lit (.bool true)], args := [d] }
  | _ => none }
def litmusOneRow : OpenClaim := { program := "ytkfkoldaeplckaadoor", sum := "c105e021b85250a2469270e7014a2970e079068e32cc151bfcc1a6984301024a", func := "corral/corrallaw15.LitmusOne", spec := "litmusOne", inPlace := ["slices.overlaps[[]uint32]"], unfollowed := true, recurses := true, named := ["corral/api.ErrMany", "corral/api.ErrShape"], plainKeys := false, apart := false, laid := [("corral/api.ErrMany", laid_corral_api_ErrMany), ("corral/api.ErrShape", laid_corral_api_ErrShape)] }
def LitmusOneSaid : Prop := litmusOneRow.holds Tryd.pinned (OpenSpec.ofChange litmusOneSpec)

/-- ITS FALSE NEIGHBOUR: 'it returns false'. Refute it at one input. -/
def litmusOneWrong : ChangeSpec := { name := "litmusOne", fn := fun _ => fun
  | [d] => { results := [.lit (.bool false)], args := [d] }
  | _ => none }
def LitmusOneWrongFalsely : Prop := litmusOneRow.holds Tryd.pinned (OpenSpec.ofChange litmusOneWrong)

/-- 'corrallaw15.LitmusFences': WHATEVER THE INPUT: true; the input reads as it did. -/
def litmusFencesSpec : ChangeSpec := { name := "litmusFences", fn := fun _ => fun
  | [d1, d2, d3, d4] => { results := [.lit (.bool true)], args := [d1, d2, d3, d4] }
  | _ => none }
def litmusFencesRow : OpenClaim := { program := "ytkfkoldaeplckaadoor", sum := "c105e021b85250a2469270e7014a2970e079068e32cc151bfcc1a6984301024a", func := "corral/corrallaw15.LitmusFences", spec := "litmusFences", inPlace := ["slices.overlaps[[]uint32]"], unfollowed := true, recurses := true, named := ["corral/api.ErrMany", "corral/api.ErrShape"], plainKeys := false, apart := false, laid := [("corral/api.ErrMany", laid_corral_api_ErrMany), ("corral/api.ErrShape", laid_corral_api_ErrShape)] }
def LitmusFencesSaid : Prop := litmusFencesRow.holds Tryd.pinned (OpenSpec.ofChange litmusFencesSpec)

/-- ITS FALSE NEIGHBOUR: 'it returns false'. Refute it at one input. -/
def litmusFencesWrong : ChangeSpec := { name := "litmusFences", fn := fun _ => fun
  | [d1, d2, d3, d4] => { results := [.lit (.bool false)], args := [d1, d2, d3, d4] }
  | _ => none }
def LitmusFencesWrongFalsely : Prop := litmusFencesRow.holds Tryd.pinned (OpenSpec.ofChange litmusFencesWrong)

/-- 'corrallaw15.LitmusSwaps': WHATEVER THE INPUT: true; the input reads as it did. -/
def litmusSwapsSpec : ChangeSpec := { name := "litmusSwaps", fn := fun _ => fun
  | [d] => { results := [.lit (.bool true)], args := [d] }
  | _ => none }
def litmusSwapsRow : OpenClaim := { program := "ytkfkoldaeplckaadoor", sum := "c105e021b85250a2469270e7014a2970e079068e32cc151bfcc1a6984301024a", func := "corral/corrallaw15.LitmusSwaps", spec := "litmusSwaps", inPlace := ["slices.overlaps[[]uint32]"], unfollowed := true, recurses := true, named := ["corral/api.ErrMany", "corral/api.ErrShape"], plainKeys := false, apart := false, laid := [("corral/api.ErrMany", laid_corral_api_ErrMany), ("corral/api.ErrShape", laid_corral_api_ErrShape)] }
def LitmusSwapsSaid : Prop := litmusSwapsRow.holds Tryd.pinned (OpenSpec.ofChange litmusSwapsSpec)

/-- ITS FALSE NEIGHBOUR: 'it returns false'. Refute it at one input. -/
def litmusSwapsWrong : ChangeSpec := { name := "litmusSwaps", fn := fun _ => fun
  | [d] => { results := [.lit (.bool false)], args := [d] }
  | _ => none }
def LitmusSwapsWrongFalsely : Prop := litmusSwapsRow.holds Tryd.pinned (OpenSpec.ofChange litmusSwapsWrong)

/-- 'corrallaw15.LitmusHands': WHATEVER THE INPUT: true; the input reads as it did. -/
def litmusHandsSpec : ChangeSpec := { name := "litmusHands", fn := fun _ => fun
  | [d1, d2] => { results := [.lit (.bool true)], args := [d1, d2] }
  | _ => none }
def litmusHandsRow : OpenClaim := { program := "ytkfkoldaeplckaadoor", sum := "c105e021b85250a2469270e7014a2970e079068e32cc151bfcc1a6984301024a", func := "corral/corrallaw15.LitmusHands", spec := "litmusHands", inPlace := ["slices.overlaps[[]uint32]"], unfollowed := true, recurses := true, named := ["corral/api.ErrMany", "corral/api.ErrShape"], plainKeys := false, apart := false, laid := [("corral/api.ErrMany", laid_corral_api_ErrMany), ("corral/api.ErrShape", laid_corral_api_ErrShape)] }
def LitmusHandsSaid : Prop := litmusHandsRow.holds Tryd.pinned (OpenSpec.ofChange litmusHandsSpec)

/-- ITS FALSE NEIGHBOUR: 'it returns false'. Refute it at one input. -/
def litmusHandsWrong : ChangeSpec := { name := "litmusHands", fn := fun _ => fun
  | [d1, d2] => { results := [.lit (.bool false)], args := [d1, d2] }
  | _ => none }
def LitmusHandsWrongFalsely : Prop := litmusHandsRow.holds Tryd.pinned (OpenSpec.ofChange litmusHandsWrong)

/- THE SECOND FORM. 'bulk': how many values and letters a reading holds, each counted each time it is reached (what is shared counts as often as it is met; a slice's spare places count too). A statement '..UptoSaid' is the law's where the arguments, and the package variables that the reading takes, are together of bulk at most 1048576: NARROWER than '..Said'. Prove '..Said' where nothing that the law and all that it calls make is longer than what came in: it says more and counts as full. Else prove '..UptoSaid'. A law counts once. -/
mutual
def uptoBulk {H : Type} : DataW H → Nat
  | .lit (.string bytes) => bytes.length + 1
  | .lit _ => 1
  | .nil => 1
  | .ptr d => uptoBulk d + 1
  | .slice elems spare => uptoBulkAll elems + uptoBulkAll spare + 1
  | .agg parts => uptoBulkAll parts + 1
  | .iface _ d => uptoBulk d + 1
  | .map entries => uptoBulkEntries entries + 1
  | .held _ => 1
def uptoBulkAll {H : Type} : List (DataW H) → Nat
  | [] => 0
  | d :: r => uptoBulk d + uptoBulkAll r
def uptoBulkEntries {H : Type} : List (Lit × DataW H) → Nat
  | [] => 0
  | x :: r => uptoBulkEntry x + uptoBulkEntries r
def uptoBulkEntry {H : Type} : Lit × DataW H → Nat
  | (.string bytes, d) => bytes.length + uptoBulk d + 1
  | (_, d) => uptoBulk d + 1
 end
def uptoSmall : (H : Type) → List (DataW H) → Bool := fun _ ds => decide (uptoBulkAll ds ≤ 1048576)
def OpenSpec.upto (s : _root_.Go.ChangeSpec) : _root_.Go.OpenSpec := { _root_.Go.OpenSpec.ofChange s with cond := some uptoSmall }

/-- 'corrallaw14.WmoInTurn', WHERE WHAT IT READS IS OF BULK AT MOST 1048576: true; the input reads as it did. -/
def wmoInTurnUptoRow : OpenClaim := { program := "ytkfkoldaeplckaadoor", sum := "c105e021b85250a2469270e7014a2970e079068e32cc151bfcc1a6984301024a", func := "corral/corrallaw14.WmoInTurn", spec := "wmoInTurn", unfollowed := true, recurses := true, named := ["corral/api.ErrMany", "corral/api.ErrShape", "corral/api.ErrOrder", "corral/api.ErrValue", "corral/api.ErrKind", "corral/api.ErrPlace", "corral/api.ErrWord", "corral/api.ErrRange", "corral/api.ErrFull", "corral/api.ErrNone", "corral/api.ErrTrace"], plainKeys := false, apart := false, laid := [("corral/api.ErrMany", laid_corral_api_ErrMany), ("corral/api.ErrKind", laid_corral_api_ErrKind), ("corral/api.ErrPlace", laid_corral_api_ErrPlace), ("corral/api.ErrShape", laid_corral_api_ErrShape), ("corral/api.ErrWord", laid_corral_api_ErrWord), ("corral/api.ErrRange", laid_corral_api_ErrRange), ("corral/api.ErrFull", laid_corral_api_ErrFull), ("corral/api.ErrNone", laid_corral_api_ErrNone), ("corral/api.ErrTrace", laid_corral_api_ErrTrace), ("corral/api.ErrOrder", laid_corral_api_ErrOrder), ("corral/api.ErrValue", laid_corral_api_ErrValue)], narrowed := true }
def WmoInTurnUptoSaid : Prop := wmoInTurnUptoRow.holds Tryd.pinned (OpenSpec.upto wmoInTurnSpec)

/-- 'corrallaw14.WmoForwards', WHERE WHAT IT READS IS OF BULK AT MOST 1048576: true; the input reads as it did. -/
def wmoForwardsUptoRow : OpenClaim := { program := "ytkfkoldaeplckaadoor", sum := "c105e021b85250a2469270e7014a2970e079068e32cc151bfcc1a6984301024a", func := "corral/corrallaw14.WmoForwards", spec := "wmoForwards", unfollowed := true, recurses := true, named := ["corral/api.ErrMany", "corral/api.ErrShape", "corral/api.ErrOrder", "corral/api.ErrValue", "corral/api.ErrKind", "corral/api.ErrPlace", "corral/api.ErrWord", "corral/api.ErrRange", "corral/api.ErrFull", "corral/api.ErrNone", "corral/api.ErrTrace"], plainKeys := false, apart := false, laid := [("corral/api.ErrMany", laid_corral_api_ErrMany), ("corral/api.ErrKind", laid_corral_api_ErrKind), ("corral/api.ErrPlace", laid_corral_api_ErrPlace), ("corral/api.ErrShape", laid_corral_api_ErrShape), ("corral/api.ErrWord", laid_corral_api_ErrWord), ("corral/api.ErrRange", laid_corral_api_ErrRange), ("corral/api.ErrFull", laid_corral_api_ErrFull), ("corral/api.ErrNone", laid_corral_api_ErrNone), ("corral/api.ErrTrace", laid_corral_api_ErrTrace), ("corral/api.ErrOrder", laid_corral_api_ErrOrder), ("corral/api.ErrValue", laid_corral_api_ErrValue)], narrowed := true }
def WmoForwardsUptoSaid : Prop := wmoForwardsUptoRow.holds Tryd.pinned (OpenSpec.upto wmoForwardsSpec)

/-- 'corrallaw14.WmoHands', WHERE WHAT IT READS IS OF BULK AT MOST 1048576: true; the input reads as it did. -/
def wmoHandsUptoRow : OpenClaim := { program := "ytkfkoldaeplckaadoor", sum := "c105e021b85250a2469270e7014a2970e079068e32cc151bfcc1a6984301024a", func := "corral/corrallaw14.WmoHands", spec := "wmoHands", unfollowed := true, recurses := true, named := ["corral/api.ErrMany", "corral/api.ErrShape", "corral/api.ErrOrder", "corral/api.ErrValue", "corral/api.ErrKind", "corral/api.ErrPlace", "corral/api.ErrWord", "corral/api.ErrRange", "corral/api.ErrFull", "corral/api.ErrNone", "corral/api.ErrTrace"], plainKeys := false, apart := false, laid := [("corral/api.ErrMany", laid_corral_api_ErrMany), ("corral/api.ErrKind", laid_corral_api_ErrKind), ("corral/api.ErrPlace", laid_corral_api_ErrPlace), ("corral/api.ErrShape", laid_corral_api_ErrShape), ("corral/api.ErrWord", laid_corral_api_ErrWord), ("corral/api.ErrRange", laid_corral_api_ErrRange), ("corral/api.ErrFull", laid_corral_api_ErrFull), ("corral/api.ErrNone", laid_corral_api_ErrNone), ("corral/api.ErrTrace", laid_corral_api_ErrTrace), ("corral/api.ErrOrder", laid_corral_api_ErrOrder), ("corral/api.ErrValue", laid_corral_api_ErrValue)], narrowed := true }
def WmoHandsUptoSaid : Prop := wmoHandsUptoRow.holds Tryd.pinned (OpenSpec.upto wmoHandsSpec)

/-- 'corrallaw14.WmoAlone', WHERE WHAT IT READS IS OF BULK AT MOST 1048576: true; the input reads as it did. -/
def wmoAloneUptoRow : OpenClaim := { program := "ytkfkoldaeplckaadoor", sum := "c105e021b85250a2469270e7014a2970e079068e32cc151bfcc1a6984301024a", func := "corral/corrallaw14.WmoAlone", spec := "wmoAlone", unfollowed := true, recurses := true, named := ["corral/api.ErrMany", "corral/api.ErrShape", "corral/api.ErrOrder", "corral/api.ErrValue", "corral/api.ErrKind", "corral/api.ErrPlace", "corral/api.ErrWord", "corral/api.ErrRange", "corral/api.ErrFull", "corral/api.ErrNone", "corral/api.ErrTrace"], plainKeys := false, apart := false, laid := [("corral/api.ErrMany", laid_corral_api_ErrMany), ("corral/api.ErrKind", laid_corral_api_ErrKind), ("corral/api.ErrPlace", laid_corral_api_ErrPlace), ("corral/api.ErrShape", laid_corral_api_ErrShape), ("corral/api.ErrWord", laid_corral_api_ErrWord), ("corral/api.ErrRange", laid_corral_api_ErrRange), ("corral/api.ErrFull", laid_corral_api_ErrFull), ("corral/api.ErrNone", laid_corral_api_ErrNone), ("corral/api.ErrTrace", laid_corral_api_ErrTrace), ("corral/api.ErrOrder", laid_corral_api_ErrOrder), ("corral/api.ErrValue", laid_corral_api_ErrValue)], narrowed := true }
def WmoAloneUptoSaid : Prop := wmoAloneUptoRow.holds Tryd.pinned (OpenSpec.upto wmoAloneSpec)

/-- 'corrallaw14.WmoMixed', WHERE WHAT IT READS IS OF BULK AT MOST 1048576: true; the input reads as it did. -/
def wmoMixedUptoRow : OpenClaim := { program := "ytkfkoldaeplckaadoor", sum := "c105e021b85250a2469270e7014a2970e079068e32cc151bfcc1a6984301024a", func := "corral/corrallaw14.WmoMixed", spec := "wmoMixed", unfollowed := true, recurses := true, named := ["corral/api.ErrMany", "corral/api.ErrShape", "corral/api.ErrOrder", "corral/api.ErrValue", "corral/api.ErrKind", "corral/api.ErrPlace", "corral/api.ErrWord", "corral/api.ErrRange", "corral/api.ErrFull", "corral/api.ErrNone", "corral/api.ErrTrace"], plainKeys := false, apart := false, laid := [("corral/api.ErrMany", laid_corral_api_ErrMany), ("corral/api.ErrKind", laid_corral_api_ErrKind), ("corral/api.ErrPlace", laid_corral_api_ErrPlace), ("corral/api.ErrShape", laid_corral_api_ErrShape), ("corral/api.ErrWord", laid_corral_api_ErrWord), ("corral/api.ErrRange", laid_corral_api_ErrRange), ("corral/api.ErrFull", laid_corral_api_ErrFull), ("corral/api.ErrNone", laid_corral_api_ErrNone), ("corral/api.ErrTrace", laid_corral_api_ErrTrace), ("corral/api.ErrOrder", laid_corral_api_ErrOrder), ("corral/api.ErrValue", laid_corral_api_ErrValue)], narrowed := true }
def WmoMixedUptoSaid : Prop := wmoMixedUptoRow.holds Tryd.pinned (OpenSpec.upto wmoMixedSpec)

/-- 'corrallaw15.LitmusOne', WHERE WHAT IT READS IS OF BULK AT MOST 1048576: true; the input reads as it did. -/
def litmusOneUptoRow : OpenClaim := { program := "ytkfkoldaeplckaadoor", sum := "c105e021b85250a2469270e7014a2970e079068e32cc151bfcc1a6984301024a", func := "corral/corrallaw15.LitmusOne", spec := "litmusOne", inPlace := ["slices.overlaps[[]uint32]"], unfollowed := true, recurses := true, named := ["corral/api.ErrMany", "corral/api.ErrShape"], plainKeys := false, apart := false, laid := [("corral/api.ErrMany", laid_corral_api_ErrMany), ("corral/api.ErrShape", laid_corral_api_ErrShape)], narrowed := true }
def LitmusOneUptoSaid : Prop := litmusOneUptoRow.holds Tryd.pinned (OpenSpec.upto litmusOneSpec)

/-- 'corrallaw15.LitmusFences', WHERE WHAT IT READS IS OF BULK AT MOST 1048576: true; the input reads as it did. -/
def litmusFencesUptoRow : OpenClaim := { program := "ytkfkoldaeplckaadoor", sum := "c105e021b85250a2469270e7014a2970e079068e32cc151bfcc1a6984301024a", func := "corral/corrallaw15.LitmusFences", spec := "litmusFences", inPlace := ["slices.overlaps[[]uint32]"], unfollowed := true, recurses := true, named := ["corral/api.ErrMany", "corral/api.ErrShape"], plainKeys := false, apart := false, laid := [("corral/api.ErrMany", laid_corral_api_ErrMany), ("corral/api.ErrShape", laid_corral_api_ErrShape)], narrowed := true }
def LitmusFencesUptoSaid : Prop := litmusFencesUptoRow.holds Tryd.pinned (OpenSpec.upto litmusFencesSpec)

/-- 'corrallaw15.LitmusSwaps', WHERE WHAT IT READS IS OF BULK AT MOST 1048576: true; the input reads as it did. -/
def litmusSwapsUptoRow : OpenClaim := { program := "ytkfkoldaeplckaadoor", sum := "c105e021b85250a2469270e7014a2970e079068e32cc151bfcc1a6984301024a", func := "corral/corrallaw15.LitmusSwaps", spec := "litmusSwaps", inPlace := ["slices.overlaps[[]uint32]"], unfollowed := true, recurses := true, named := ["corral/api.ErrMany", "corral/api.ErrShape"], plainKeys := false, apart := false, laid := [("corral/api.ErrMany", laid_corral_api_ErrMany), ("corral/api.ErrShape", laid_corral_api_ErrShape)], narrowed := true }
def LitmusSwapsUptoSaid : Prop := litmusSwapsUptoRow.holds Tryd.pinned (OpenSpec.upto litmusSwapsSpec)

/-- 'corrallaw15.LitmusHands', WHERE WHAT IT READS IS OF BULK AT MOST 1048576: true; the input reads as it did. -/
def litmusHandsUptoRow : OpenClaim := { program := "ytkfkoldaeplckaadoor", sum := "c105e021b85250a2469270e7014a2970e079068e32cc151bfcc1a6984301024a", func := "corral/corrallaw15.LitmusHands", spec := "litmusHands", inPlace := ["slices.overlaps[[]uint32]"], unfollowed := true, recurses := true, named := ["corral/api.ErrMany", "corral/api.ErrShape"], plainKeys := false, apart := false, laid := [("corral/api.ErrMany", laid_corral_api_ErrMany), ("corral/api.ErrShape", laid_corral_api_ErrShape)], narrowed := true }
def LitmusHandsUptoSaid : Prop := litmusHandsUptoRow.holds Tryd.pinned (OpenSpec.upto litmusHandsSpec)

end Rows
end Go.Proofs.YtkfkoldaeplckaaDoor
