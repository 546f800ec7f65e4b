/-
  No cell of these rows narrows 'for every input' (looked for: loops, veiled, ifaces, maps, wideKeys, modest, calm, conditions, laid).
  DERIVED. THE GIVEN ROWS OF THIS SEAT. 5 by the template 'for every input the law returns true; each argument reads behind the call as it read before'; 0 by the template 'total and deterministic' (their statements: YtkfkoldaeplckaaTotals.lean).
  GIVEN WITH THE SEED: the statements are not yours to turn. If you find one false, say at which input.
  Laid BY PROGRAM, IN A SANDBOX (cutbox-rows.mjs): the forced cells as the released guide's own fill.sh prints them over the translation a8506ae84422c473… (all of the seat's roots in one cut). By AI agents, Wed Nov 11 2026. No macro, syntax, notation, axiom, sorry.
-/
import Derived.Test.YtkfkoldaeplckaaChecked
import GoSem.Claim
import GoSem.ClaimJoined
import GoSem.ClaimMapViews
import Derived.JoinedTies
import Derived.KernelRfl
namespace Go.Proofs.Ytkfkoldaeplckaa
/- THE CELL 'sum', in the pinned program and in every row, IS THE sha256 OF THE DUMP (.gsa) THAT YtkfkoldaeplckaaProg.lean LOADS. Nothing in Lean hashes anything: it is a label: what it is worth is what the hold of that sum in a sandbox is worth. -/
noncomputable def Try.pinned : Pinned := { name := "ytkfkoldaeplckaa", sum := "a8506ae84422c47315c77ee3d8b254faff81137d5bb5fdbd83189b5ee3256253", checked := Try.checked }
namespace Rows
def none {H : Type} : Left H := { results := [], args := [] }

/-- 'corrallaw13.PpoMore': WHATEVER THE INPUT: true; the input reads as it did. -/
def ppoMoreSpec : ChangeSpec := { name := "ppoMore", fn := fun _ => fun
  | [d1, d2, d3] => { results := [.lit (.bool true)], args := [d1, d2, d3] }
  | _ => none }
def ppoMoreRow : OpenClaim := { program := "ytkfkoldaeplckaa", sum := "a8506ae84422c47315c77ee3d8b254faff81137d5bb5fdbd83189b5ee3256253", func := "corral/corrallaw13.PpoMore", spec := "ppoMore", apart := false }
def PpoMoreSaid : Prop := ppoMoreRow.holds Try.pinned (OpenSpec.ofChange ppoMoreSpec)

/-- ITS FALSE NEIGHBOUR: 'it returns false'. Refute it at one input. -/
def ppoMoreWrong : ChangeSpec := { name := "ppoMore", fn := fun _ => fun
  | [d1, d2, d3] => { results := [.lit (.bool false)], args := [d1, d2, d3] }
  | _ => none }
def PpoMoreWrongFalsely : Prop := ppoMoreRow.holds Try.pinned (OpenSpec.ofChange ppoMoreWrong)

/-- 'corrallaw13.PpoFences': WHATEVER THE INPUT: true; the input reads as it did. -/
def ppoFencesSpec : ChangeSpec := { name := "ppoFences", fn := fun _ => fun
  | [d1, d2, d3] => { results := [.lit (.bool true)], args := [d1, d2, d3] }
  | _ => none }
def ppoFencesRow : OpenClaim := { program := "ytkfkoldaeplckaa", sum := "a8506ae84422c47315c77ee3d8b254faff81137d5bb5fdbd83189b5ee3256253", func := "corral/corrallaw13.PpoFences", spec := "ppoFences", apart := false }
def PpoFencesSaid : Prop := ppoFencesRow.holds Try.pinned (OpenSpec.ofChange ppoFencesSpec)

/-- ITS FALSE NEIGHBOUR: 'it returns false'. Refute it at one input. -/
def ppoFencesWrong : ChangeSpec := { name := "ppoFences", fn := fun _ => fun
  | [d1, d2, d3] => { results := [.lit (.bool false)], args := [d1, d2, d3] }
  | _ => none }
def PpoFencesWrongFalsely : Prop := ppoFencesRow.holds Try.pinned (OpenSpec.ofChange ppoFencesWrong)

/-- 'corrallaw13.PpoDeps': WHATEVER THE INPUT: true; the input reads as it did. -/
def ppoDepsSpec : ChangeSpec := { name := "ppoDeps", fn := fun _ => fun
  | [d1, d2, d3, d4, d5] => { results := [.lit (.bool true)], args := [d1, d2, d3, d4, d5] }
  | _ => none }
def ppoDepsRow : OpenClaim := { program := "ytkfkoldaeplckaa", sum := "a8506ae84422c47315c77ee3d8b254faff81137d5bb5fdbd83189b5ee3256253", func := "corral/corrallaw13.PpoDeps", spec := "ppoDeps", apart := false }
def PpoDepsSaid : Prop := ppoDepsRow.holds Try.pinned (OpenSpec.ofChange ppoDepsSpec)

/-- ITS FALSE NEIGHBOUR: 'it returns false'. Refute it at one input. -/
def ppoDepsWrong : ChangeSpec := { name := "ppoDeps", fn := fun _ => fun
  | [d1, d2, d3, d4, d5] => { results := [.lit (.bool false)], args := [d1, d2, d3, d4, d5] }
  | _ => none }
def PpoDepsWrongFalsely : Prop := ppoDepsRow.holds Try.pinned (OpenSpec.ofChange ppoDepsWrong)

/-- 'corrallaw13.PpoThrough': WHATEVER THE INPUT: true; the input reads as it did. -/
def ppoThroughSpec : ChangeSpec := { name := "ppoThrough", fn := fun _ => fun
  | [d1, d2, d3] => { results := [.lit (.bool true)], args := [d1, d2, d3] }
  | _ => none }
def ppoThroughRow : OpenClaim := { program := "ytkfkoldaeplckaa", sum := "a8506ae84422c47315c77ee3d8b254faff81137d5bb5fdbd83189b5ee3256253", func := "corral/corrallaw13.PpoThrough", spec := "ppoThrough", apart := false }
def PpoThroughSaid : Prop := ppoThroughRow.holds Try.pinned (OpenSpec.ofChange ppoThroughSpec)

/-- ITS FALSE NEIGHBOUR: 'it returns false'. Refute it at one input. -/
def ppoThroughWrong : ChangeSpec := { name := "ppoThrough", fn := fun _ => fun
  | [d1, d2, d3] => { results := [.lit (.bool false)], args := [d1, d2, d3] }
  | _ => none }
def PpoThroughWrongFalsely : Prop := ppoThroughRow.holds Try.pinned (OpenSpec.ofChange ppoThroughWrong)

/-- 'corrallaw13.PpoPairs': WHATEVER THE INPUT: true; the input reads as it did. -/
def ppoPairsSpec : ChangeSpec := { name := "ppoPairs", fn := fun _ => fun
  | [d] => { results := [.lit (.bool true)], args := [d] }
  | _ => none }
def ppoPairsRow : OpenClaim := { program := "ytkfkoldaeplckaa", sum := "a8506ae84422c47315c77ee3d8b254faff81137d5bb5fdbd83189b5ee3256253", func := "corral/corrallaw13.PpoPairs", spec := "ppoPairs", apart := false }
def PpoPairsSaid : Prop := ppoPairsRow.holds Try.pinned (OpenSpec.ofChange ppoPairsSpec)

/-- ITS FALSE NEIGHBOUR: 'it returns false'. Refute it at one input. -/
def ppoPairsWrong : ChangeSpec := { name := "ppoPairs", fn := fun _ => fun
  | [d] => { results := [.lit (.bool false)], args := [d] }
  | _ => none }
def PpoPairsWrongFalsely : Prop := ppoPairsRow.holds Try.pinned (OpenSpec.ofChange ppoPairsWrong)

/- THE SECOND FORM. 'bulk': how many values and letters a reading holds, each counted each time it is reached (what is shared counts as often as it is met; a slice's spare places count too). A statement '..UptoSaid' is the law's where the arguments, and the package variables that the reading takes, are together of bulk at most 1048576: NARROWER than '..Said'. Prove '..Said' where nothing that the law and all that it calls make is longer than what came in: it says more and counts as full. Else prove '..UptoSaid'. A law counts once. -/
mutual
def uptoBulk {H : Type} : DataW H → Nat
  | .lit (.string bytes) => bytes.length + 1
  | .lit _ => 1
  | .nil => 1
  | .ptr d => uptoBulk d + 1
  | .slice elems spare => uptoBulkAll elems + uptoBulkAll spare + 1
  | .agg parts => uptoBulkAll parts + 1
  | .iface _ d => uptoBulk d + 1
  | .map entries => uptoBulkEntries entries + 1
  | .held _ => 1
def uptoBulkAll {H : Type} : List (DataW H) → Nat
  | [] => 0
  | d :: r => uptoBulk d + uptoBulkAll r
def uptoBulkEntries {H : Type} : List (Lit × DataW H) → Nat
  | [] => 0
  | x :: r => uptoBulkEntry x + uptoBulkEntries r
def uptoBulkEntry {H : Type} : Lit × DataW H → Nat
  | (.string bytes, d) => bytes.length + uptoBulk d + 1
  | (_, d) => uptoBulk d + 1
 end
def uptoSmall : (H : Type) → List (DataW H) → Bool := fun _ ds => decide (uptoBulkAll ds ≤ 1048576)
def OpenSpec.upto (s : _root_.Go.ChangeSpec) : _root_.Go.OpenSpec := { _root_.Go.OpenSpec.ofChange s with cond := some uptoSmall }

/-- 'corrallaw13.PpoMore', WHERE WHAT IT READS IS OF BULK AT MOST 1048576: true; the input reads as it did. -/
def ppoMoreUptoRow : OpenClaim := { program := "ytkfkoldaeplckaa", sum := "a8506ae84422c47315c77ee3d8b254faff81137d5bb5fdbd83189b5ee3256253", func := "corral/corrallaw13.PpoMore", spec := "ppoMore", apart := false, narrowed := true }
def PpoMoreUptoSaid : Prop := ppoMoreUptoRow.holds Try.pinned (OpenSpec.upto ppoMoreSpec)

/-- 'corrallaw13.PpoFences', WHERE WHAT IT READS IS OF BULK AT MOST 1048576: true; the input reads as it did. -/
def ppoFencesUptoRow : OpenClaim := { program := "ytkfkoldaeplckaa", sum := "a8506ae84422c47315c77ee3d8b254faff81137d5bb5fdbd83189b5ee3256253", func := "corral/corrallaw13.PpoFences", spec := "ppoFences", apart := false, narrowed := true }
def PpoFencesUptoSaid : Prop := ppoFencesUptoRow.holds Try.pinned (OpenSpec.upto ppoFencesSpec)

/-- 'corrallaw13.PpoDeps', WHERE WHAT IT READS IS OF BULK AT MOST 1048576: true; the input reads as it did. -/
def ppoDepsUptoRow : OpenClaim := { program := "ytkfkoldaeplckaa", sum := "a8506ae84422c47315c77ee3d8b254faff81137d5bb5fdbd83189b5ee3256253", func := "corral/corrallaw13.PpoDeps", spec := "ppoDeps", apart := false, narrowed := true }
def PpoDepsUptoSaid : Prop := ppoDepsUptoRow.holds Try.pinned (OpenSpec.upto ppoDepsSpec)

/-- 'corrallaw13.PpoThrough', WHERE WHAT IT READS IS OF BULK AT MOST 1048576: true; the input reads as it did. -/
def ppoThroughUptoRow : OpenClaim := { program := "ytkfkoldaeplckaa", sum := "a8506ae84422c47315c77ee3d8b254faff81137d5bb5fdbd83189b5ee3256253", func := "corral/corrallaw13.PpoThrough", spec := "ppoThrough", apart := false, narrowed := true }
def PpoThroughUptoSaid : Prop := ppoThroughUptoRow.holds Try.pinned (OpenSpec.upto ppoThroughSpec)

/-- 'corrallaw13.PpoPairs', WHERE WHAT IT READS IS OF BULK AT MOST 1048576: true; the input reads as it did. -/
def ppoPairsUptoRow : OpenClaim := { program := "ytkfkoldaeplckaa", sum := "a8506ae84422c47315c77ee3d8b254faff81137d5bb5fdbd83189b5ee3256253", func := "corral/corrallaw13.PpoPairs", spec := "ppoPairs", apart := false, narrowed := true }
def PpoPairsUptoSaid : Prop := ppoPairsUptoRow.holds Try.pinned (OpenSpec.upto ppoPairsSpec)

end Rows
end Go.Proofs.Ytkfkoldaeplckaa
