/-
  NARROWER THAN 'FOR EVERY INPUT', by the rows' own cells (each row's printed sentence says how): MemEdges: laid · MemBytes: laid · MemParts: laid · MemPlays: laid · MemLines: laid.
  DERIVED. THE GIVEN ROWS OF THIS SEAT. 5 by the template 'for every input the law returns true; each argument reads behind the call as it read before'; 0 by the template 'total and deterministic' (their statements: YtncninjgfllcdaaDoorTotals.lean).
  GIVEN WITH THE SEED: the statements are not yours to turn. If you find one false, say at which input.
  Laid BY PROGRAM, IN A SANDBOX (cutbox-rows.mjs): the forced cells as the released guide's own fill.sh prints them over the translation e98ee1d4bc42a07a… (all of the seat's roots in one cut). By AI agents, Wed Nov 11 2026. No macro, syntax, notation, axiom, sorry.
-/
import Derived.Test.YtncninjgfllcdaaDoorChecked
import GoSem.Claim
import GoSem.ClaimJoined
import GoSem.ClaimMapViews
import Derived.JoinedTies
import Derived.KernelRfl
namespace Go.Proofs.YtncninjgfllcdaaDoor
/- THE CELL 'sum', in the pinned program and in every row, IS THE sha256 OF THE DUMP (.gsa) THAT YtncninjgfllcdaaDoorProg.lean LOADS. Nothing in Lean hashes anything: it is a label: what it is worth is what the hold of that sum in a sandbox is worth. -/
noncomputable def Tryd.pinned : Pinned := { name := "ytncninjgfllcdaadoor", sum := "e98ee1d4bc42a07a668e55add929608100ccaa4ccc7a5ea0c3375863922e8fba", checked := Tryd.checked }
namespace Rows
def none {H : Type} : Left H := { results := [], args := [] }

/- WHAT THE LISTED PACKAGE-LEVEL VARIABLES READ AS WHEN THE CALL BEGINS. Each datum BY PROGRAM (the guide's laid-datum.mjs) off the statement by which the dump's own 'gosem.cut.vars' lays the variable. In a bare row this is a premise. The card (YtncninjgfllcdaaDoorCards.lean) ties it to the program's text. -/
def laid_corral_api_ErrMany {H : Type} : DataW H := .iface "*errors.errorString" (.ptr (.agg [.lit (.string [116, 111, 111, 32, 109, 97, 110, 121])]))
def laid_corral_api_ErrKind {H : Type} : DataW H := .iface "*errors.errorString" (.ptr (.agg [.lit (.string [110, 111, 32, 115, 117, 99, 104, 32, 107, 105, 110, 100])]))
def laid_corral_api_ErrPlace {H : Type} : DataW H := .iface "*errors.errorString" (.ptr (.agg [.lit (.string [110, 111, 32, 115, 117, 99, 104, 32, 112, 108, 97, 99, 101])]))
def laid_corral_api_ErrShape {H : Type} : DataW H := .iface "*errors.errorString" (.ptr (.agg [.lit (.string [110, 111, 116, 32, 116, 104, 101, 32, 115, 104, 97, 112, 101, 32, 116, 104, 97, 116, 32, 105, 116, 32, 104, 97, 115, 32, 116, 111, 32, 104, 97, 118, 101])]))
def laid_corral_api_ErrWord {H : Type} : DataW H := .iface "*errors.errorString" (.ptr (.agg [.lit (.string [110, 111, 32, 115, 117, 99, 104, 32, 119, 111, 114, 100])]))
def laid_corral_api_ErrRange {H : Type} : DataW H := .iface "*errors.errorString" (.ptr (.agg [.lit (.string [97, 32, 110, 117, 109, 98, 101, 114, 32, 111, 117, 116, 32, 111, 102, 32, 105, 116, 115, 32, 114, 97, 110, 103, 101])]))
def laid_corral_api_ErrFull {H : Type} : DataW H := .iface "*errors.errorString" (.ptr (.agg [.lit (.string [110, 111, 32, 114, 111, 111, 109])]))
def laid_corral_api_ErrNone {H : Type} : DataW H := .iface "*errors.errorString" (.ptr (.agg [.lit (.string [116, 104, 101, 114, 101, 32, 105, 115, 32, 110, 111, 110, 101])]))
def laid_corral_api_ErrTrace {H : Type} : DataW H := .iface "*errors.errorString" (.ptr (.agg [.lit (.string [110, 111, 32, 114, 117, 110, 32, 111, 102, 32, 116, 104, 101, 32, 105, 110, 115, 116, 114, 117, 99, 116, 105, 111, 110, 115])]))
def laid_corral_api_ErrOrder {H : Type} : DataW H := .iface "*errors.errorString" (.ptr (.agg [.lit (.string [97, 110, 32, 111, 114, 100, 101, 114, 32, 116, 104, 97, 116, 32, 109, 97, 121, 32, 110, 111, 116, 32, 98, 101])]))
def laid_corral_api_ErrValue {H : Type} : DataW H := .iface "*errors.errorString" (.ptr (.agg [.lit (.string [97, 32, 118, 97, 108, 117, 101, 32, 116, 104, 97, 116, 32, 119, 97, 115, 32, 110, 111, 116, 32, 116, 104, 101, 114, 101])]))

/-- 'corrallaw7.MemEdges': WHATEVER THE INPUT: true; the input reads as it did. -/
def memEdgesSpec : ChangeSpec := { name := "memEdges", fn := fun _ => fun
  | [d] => { results := [.lit (.bool true)], args := [d] }
  | _ => none }
def memEdgesRow : OpenClaim := { program := "ytncninjgfllcdaadoor", sum := "e98ee1d4bc42a07a668e55add929608100ccaa4ccc7a5ea0c3375863922e8fba", func := "corral/corrallaw7.MemEdges", spec := "memEdges", recurses := true, named := ["corral/api.ErrRange", "corral/api.ErrMany", "corral/api.ErrKind", "corral/api.ErrPlace", "corral/api.ErrShape", "corral/api.ErrWord", "corral/api.ErrFull", "corral/api.ErrNone", "corral/api.ErrTrace", "corral/api.ErrOrder", "corral/api.ErrValue"], apart := false, laid := [("corral/api.ErrMany", laid_corral_api_ErrMany), ("corral/api.ErrKind", laid_corral_api_ErrKind), ("corral/api.ErrPlace", laid_corral_api_ErrPlace), ("corral/api.ErrShape", laid_corral_api_ErrShape), ("corral/api.ErrWord", laid_corral_api_ErrWord), ("corral/api.ErrRange", laid_corral_api_ErrRange), ("corral/api.ErrFull", laid_corral_api_ErrFull), ("corral/api.ErrNone", laid_corral_api_ErrNone), ("corral/api.ErrTrace", laid_corral_api_ErrTrace), ("corral/api.ErrOrder", laid_corral_api_ErrOrder), ("corral/api.ErrValue", laid_corral_api_ErrValue)] }
def MemEdgesSaid : Prop := memEdgesRow.holds Tryd.pinned (OpenSpec.ofChange memEdgesSpec)

/-- ITS FALSE NEIGHBOUR: 'it returns false'. Refute it at one input. -/
def memEdgesWrong : ChangeSpec := { name := "memEdges", fn := fun _ => fun
  | [d] => { results := [.lit (.bool false)], args := [d] }
  | _ => none }
def MemEdgesWrongFalsely : Prop := memEdgesRow.holds Tryd.pinned (OpenSpec.ofChange memEdgesWrong)

/-- 'corrallaw7.MemBytes': WHATEVER THE INPUT: true; the input reads as it did. -/
def memBytesSpec : ChangeSpec := { name := "memBytes", fn := fun _ => fun
  | [d1, d2] => { results := [.lit (.bool true)], args := [d1, d2] }
  | _ => none }
def memBytesRow : OpenClaim := { program := "ytncninjgfllcdaadoor", sum := "e98ee1d4bc42a07a668e55add929608100ccaa4ccc7a5ea0c3375863922e8fba", func := "corral/corrallaw7.MemBytes", spec := "memBytes", named := ["corral/api.ErrRange", "corral/api.ErrMany"], apart := false, laid := [("corral/api.ErrMany", laid_corral_api_ErrMany), ("corral/api.ErrRange", laid_corral_api_ErrRange)] }
def MemBytesSaid : Prop := memBytesRow.holds Tryd.pinned (OpenSpec.ofChange memBytesSpec)

/-- ITS FALSE NEIGHBOUR: 'it returns false'. Refute it at one input. -/
def memBytesWrong : ChangeSpec := { name := "memBytes", fn := fun _ => fun
  | [d1, d2] => { results := [.lit (.bool false)], args := [d1, d2] }
  | _ => none }
def MemBytesWrongFalsely : Prop := memBytesRow.holds Tryd.pinned (OpenSpec.ofChange memBytesWrong)

/-- 'corrallaw7.MemParts': WHATEVER THE INPUT: true; the input reads as it did. -/
def memPartsSpec : ChangeSpec := { name := "memParts", fn := fun _ => fun
  | [d1, d2, d3, d4] => { results := [.lit (.bool true)], args := [d1, d2, d3, d4] }
  | _ => none }
def memPartsRow : OpenClaim := { program := "ytncninjgfllcdaadoor", sum := "e98ee1d4bc42a07a668e55add929608100ccaa4ccc7a5ea0c3375863922e8fba", func := "corral/corrallaw7.MemParts", spec := "memParts", named := ["corral/api.ErrRange", "corral/api.ErrMany"], apart := false, laid := [("corral/api.ErrMany", laid_corral_api_ErrMany), ("corral/api.ErrRange", laid_corral_api_ErrRange)] }
def MemPartsSaid : Prop := memPartsRow.holds Tryd.pinned (OpenSpec.ofChange memPartsSpec)

/-- ITS FALSE NEIGHBOUR: 'it returns false'. Refute it at one input. -/
def memPartsWrong : ChangeSpec := { name := "memParts", fn := fun _ => fun
  | [d1, d2, d3, d4] => { results := [.lit (.bool false)], args := [d1, d2, d3, d4] }
  | _ => none }
def MemPartsWrongFalsely : Prop := memPartsRow.holds Tryd.pinned (OpenSpec.ofChange memPartsWrong)

/-- 'corrallaw7.MemPlays': WHATEVER THE INPUT: true; the input reads as it did. -/
def memPlaysSpec : ChangeSpec := { name := "memPlays", fn := fun _ => fun
  | [d1, d2, d3, d4, d5, d6] => { results := [.lit (.bool true)], args := [d1, d2, d3, d4, d5, d6] }
  | _ => none }
def memPlaysRow : OpenClaim := { program := "ytncninjgfllcdaadoor", sum := "e98ee1d4bc42a07a668e55add929608100ccaa4ccc7a5ea0c3375863922e8fba", func := "corral/corrallaw7.MemPlays", spec := "memPlays", recurses := true, named := ["corral/api.ErrRange", "corral/api.ErrMany", "corral/api.ErrKind", "corral/api.ErrPlace", "corral/api.ErrShape", "corral/api.ErrWord", "corral/api.ErrFull", "corral/api.ErrNone", "corral/api.ErrTrace", "corral/api.ErrOrder", "corral/api.ErrValue"], apart := false, laid := [("corral/api.ErrMany", laid_corral_api_ErrMany), ("corral/api.ErrKind", laid_corral_api_ErrKind), ("corral/api.ErrPlace", laid_corral_api_ErrPlace), ("corral/api.ErrShape", laid_corral_api_ErrShape), ("corral/api.ErrWord", laid_corral_api_ErrWord), ("corral/api.ErrRange", laid_corral_api_ErrRange), ("corral/api.ErrFull", laid_corral_api_ErrFull), ("corral/api.ErrNone", laid_corral_api_ErrNone), ("corral/api.ErrTrace", laid_corral_api_ErrTrace), ("corral/api.ErrOrder", laid_corral_api_ErrOrder), ("corral/api.ErrValue", laid_corral_api_ErrValue)] }
def MemPlaysSaid : Prop := memPlaysRow.holds Tryd.pinned (OpenSpec.ofChange memPlaysSpec)

/-- ITS FALSE NEIGHBOUR: 'it returns false'. Refute it at one input. -/
def memPlaysWrong : ChangeSpec := { name := "memPlays", fn := fun _ => fun
  | [d1, d2, d3, d4, d5, d6] => { results := [.lit (.bool false)], args := [d1, d2, d3, d4, d5, d6] }
  | _ => none }
def MemPlaysWrongFalsely : Prop := memPlaysRow.holds Tryd.pinned (OpenSpec.ofChange memPlaysWrong)

/-- 'corrallaw7.MemLines': WHATEVER THE INPUT: true; the input reads as it did. -/
def memLinesSpec : ChangeSpec := { name := "memLines", fn := fun _ => fun
  | [d1, d2, d3, d4, d5] => { results := [.lit (.bool true)], args := [d1, d2, d3, d4, d5] }
  | _ => none }
def memLinesRow : OpenClaim := { program := "ytncninjgfllcdaadoor", sum := "e98ee1d4bc42a07a668e55add929608100ccaa4ccc7a5ea0c3375863922e8fba", func := "corral/corrallaw7.MemLines", spec := "memLines", named := ["corral/api.ErrRange", "corral/api.ErrMany"], apart := false, laid := [("corral/api.ErrMany", laid_corral_api_ErrMany), ("corral/api.ErrRange", laid_corral_api_ErrRange)] }
def MemLinesSaid : Prop := memLinesRow.holds Tryd.pinned (OpenSpec.ofChange memLinesSpec)

/-- ITS FALSE NEIGHBOUR: 'it returns false'. Refute it at one input. -/
def memLinesWrong : ChangeSpec := { name := "memLines", fn := fun _ => fun
  | [d1, d2, d3, d4, d5] => { results := [.lit (.bool false)], args := [d1, d2, d3, d4, d5] }
  | _ => none }
def MemLinesWrongFalsely : Prop := memLinesRow.holds Tryd.pinned (OpenSpec.ofChange memLinesWrong)

/- THE SECOND FORM. 'bulk': how many values and letters a reading holds, each counted each time it is reached (what is shared counts as often as it is met; a slice's spare places count too). A statement '..UptoSaid' is the law's where the arguments, and the package variables that the reading takes, are together of bulk at most 1048576: NARROWER than '..Said'. Prove '..Said' where nothing that the law and all that it calls make is longer than what came in: it says more and counts as full. Else prove '..UptoSaid'. A law counts once. -/
mutual
def uptoBulk {H : Type} : DataW H → Nat
  | .lit (.string bytes) => bytes.length + 1
  | .lit _ => 1
  | .nil => 1
  | .ptr d => uptoBulk d + 1
  | .slice elems spare => uptoBulkAll elems + uptoBulkAll spare + 1
  | .agg parts => uptoBulkAll parts + 1
  | .iface _ d => uptoBulk d + 1
  | .map entries => uptoBulkEntries entries + 1
  | .held _ => 1
def uptoBulkAll {H : Type} : List (DataW H) → Nat
  | [] => 0
  | d :: r => uptoBulk d + uptoBulkAll r
def uptoBulkEntries {H : Type} : List (Lit × DataW H) → Nat
  | [] => 0
  | x :: r => uptoBulkEntry x + uptoBulkEntries r
def uptoBulkEntry {H : Type} : Lit × DataW H → Nat
  | (.string bytes, d) => bytes.length + uptoBulk d + 1
  | (_, d) => uptoBulk d + 1
 end
def uptoSmall : (H : Type) → List (DataW H) → Bool := fun _ ds => decide (uptoBulkAll ds ≤ 1048576)
def OpenSpec.upto (s : _root_.Go.ChangeSpec) : _root_.Go.OpenSpec := { _root_.Go.OpenSpec.ofChange s with cond := some uptoSmall }

/-- 'corrallaw7.MemEdges', WHERE WHAT IT READS IS OF BULK AT MOST 1048576: true; the input reads as it did. -/
def memEdgesUptoRow : OpenClaim := { program := "ytncninjgfllcdaadoor", sum := "e98ee1d4bc42a07a668e55add929608100ccaa4ccc7a5ea0c3375863922e8fba", func := "corral/corrallaw7.MemEdges", spec := "memEdges", recurses := true, named := ["corral/api.ErrRange", "corral/api.ErrMany", "corral/api.ErrKind", "corral/api.ErrPlace", "corral/api.ErrShape", "corral/api.ErrWord", "corral/api.ErrFull", "corral/api.ErrNone", "corral/api.ErrTrace", "corral/api.ErrOrder", "corral/api.ErrValue"], apart := false, laid := [("corral/api.ErrMany", laid_corral_api_ErrMany), ("corral/api.ErrKind", laid_corral_api_ErrKind), ("corral/api.ErrPlace", laid_corral_api_ErrPlace), ("corral/api.ErrShape", laid_corral_api_ErrShape), ("corral/api.ErrWord", laid_corral_api_ErrWord), ("corral/api.ErrRange", laid_corral_api_ErrRange), ("corral/api.ErrFull", laid_corral_api_ErrFull), ("corral/api.ErrNone", laid_corral_api_ErrNone), ("corral/api.ErrTrace", laid_corral_api_ErrTrace), ("corral/api.ErrOrder", laid_corral_api_ErrOrder), ("corral/api.ErrValue", laid_corral_api_ErrValue)], narrowed := true }
def MemEdgesUptoSaid : Prop := memEdgesUptoRow.holds Tryd.pinned (OpenSpec.upto memEdgesSpec)

/-- 'corrallaw7.MemBytes', WHERE WHAT IT READS IS OF BULK AT MOST 1048576: true; the input reads as it did. -/
def memBytesUptoRow : OpenClaim := { program := "ytncninjgfllcdaadoor", sum := "e98ee1d4bc42a07a668e55add929608100ccaa4ccc7a5ea0c3375863922e8fba", func := "corral/corrallaw7.MemBytes", spec := "memBytes", named := ["corral/api.ErrRange", "corral/api.ErrMany"], apart := false, laid := [("corral/api.ErrMany", laid_corral_api_ErrMany), ("corral/api.ErrRange", laid_corral_api_ErrRange)], narrowed := true }
def MemBytesUptoSaid : Prop := memBytesUptoRow.holds Tryd.pinned (OpenSpec.upto memBytesSpec)

/-- 'corrallaw7.MemParts', WHERE WHAT IT READS IS OF BULK AT MOST 1048576: true; the input reads as it did. -/
def memPartsUptoRow : OpenClaim := { program := "ytncninjgfllcdaadoor", sum := "e98ee1d4bc42a07a668e55add929608100ccaa4ccc7a5ea0c3375863922e8fba", func := "corral/corrallaw7.MemParts", spec := "memParts", named := ["corral/api.ErrRange", "corral/api.ErrMany"], apart := false, laid := [("corral/api.ErrMany", laid_corral_api_ErrMany), ("corral/api.ErrRange", laid_corral_api_ErrRange)], narrowed := true }
def MemPartsUptoSaid : Prop := memPartsUptoRow.holds Tryd.pinned (OpenSpec.upto memPartsSpec)

/-- 'corrallaw7.MemPlays', WHERE WHAT IT READS IS OF BULK AT MOST 1048576: true; the input reads as it did. -/
def memPlaysUptoRow : OpenClaim := { program := "ytncninjgfllcdaadoor", sum := "e98ee1d4bc42a07a668e55add929608100ccaa4ccc7a5ea0c3375863922e8fba", func := "corral/corrallaw7.MemPlays", spec := "memPlays", recurses := true, named := ["corral/api.ErrRange", "corral/api.ErrMany", "corral/api.ErrKind", "corral/api.ErrPlace", "corral/api.ErrShape", "corral/api.ErrWord", "corral/api.ErrFull", "corral/api.ErrNone", "corral/api.ErrTrace", "corral/api.ErrOrder", "corral/api.ErrValue"], apart := false, laid := [("corral/api.ErrMany", laid_corral_api_ErrMany), ("corral/api.ErrKind", laid_corral_api_ErrKind), ("corral/api.ErrPlace", laid_corral_api_ErrPlace), ("corral/api.ErrShape", laid_corral_api_ErrShape), ("corral/api.ErrWord", laid_corral_api_ErrWord), ("corral/api.ErrRange", laid_corral_api_ErrRange), ("corral/api.ErrFull", laid_corral_api_ErrFull), ("corral/api.ErrNone", laid_corral_api_ErrNone), ("corral/api.ErrTrace", laid_corral_api_ErrTrace), ("corral/api.ErrOrder", laid_corral_api_ErrOrder), ("corral/api.ErrValue", laid_corral_api_ErrValue)], narrowed := true }
def MemPlaysUptoSaid : Prop := memPlaysUptoRow.holds Tryd.pinned (OpenSpec.upto memPlaysSpec)

/-- 'corrallaw7.MemLines', WHERE WHAT IT READS IS OF BULK AT MOST 1048576: true; the input reads as it did. -/
def memLinesUptoRow : OpenClaim := { program := "ytncninjgfllcdaadoor", sum := "e98ee1d4bc42a07a668e55add929608100ccaa4ccc7a5ea0c3375863922e8fba", func := "corral/corrallaw7.MemLines", spec := "memLines", named := ["corral/api.ErrRange", "corral/api.ErrMany"], apart := false, laid := [("corral/api.ErrMany", laid_corral_api_ErrMany), ("corral/api.ErrRange", laid_corral_api_ErrRange)], narrowed := true }
def MemLinesUptoSaid : Prop := memLinesUptoRow.holds Tryd.pinned (OpenSpec.upto memLinesSpec)

end Rows
end Go.Proofs.YtncninjgfllcdaaDoor
