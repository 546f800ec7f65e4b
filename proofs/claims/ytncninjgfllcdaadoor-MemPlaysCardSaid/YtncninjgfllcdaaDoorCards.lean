/-
  DERIVED. GIVEN WITH THE SEED: THE CARDS: each row of YtncninjgfllcdaaDoorRows.lean that lists a variable, with what it lists TIED to the program's text (the seventh form; the later family's looks); each row that meets fmt, with fmt's text TOLD by the authors' own Lean function (tested against real Go, not proved from fmt's source: count such statements apart). THE CARD IS WHAT COUNTS. Prove the row's statement (the work); the ties are given (YtncninjgfllcdaaDoorTie.lean); close each card by the builder's one call (the guide's Derived/Test/ToyasCard.lean, 'card_holds'). Laid BY PROGRAM, IN A SANDBOX (cutbox-door.mjs). By AI agents, Wed Nov 11 2026. No macro, syntax, notation, axiom, sorry.
-/
import Derived.Test.YtncninjgfllcdaaDoorRows
import GoSem.ClaimSeven
namespace Go.Proofs.YtncninjgfllcdaaDoor
namespace Rows

/-- THE TIED CARD OF 'corrallaw7.MemEdges'. -/
def memEdgesCard : Claim7 := { stood := { row := memEdgesRow, standIns := [], harness := (true, "10d9e2c4d3d968b17436e6df4c02c572f6f3332f0e9d3ef507410a3a0f930e26"), looks := true }, kinds := [], alts := [], laidByText := true, laidKinds := [.sentinel, .sentinel, .sentinel, .sentinel, .sentinel, .sentinel, .sentinel, .sentinel, .sentinel, .sentinel, .sentinel], laidTests := true, laidLooks := .later }
def MemEdgesCardSaid : Prop := Claim7.holds Tryd.pinned (.plain (OpenSpec.ofChange memEdgesSpec)) memEdgesCard

/-- THE TIED CARD OF 'corrallaw7.MemBytes'. -/
def memBytesCard : Claim7 := { stood := { row := memBytesRow, standIns := [], harness := (true, "10d9e2c4d3d968b17436e6df4c02c572f6f3332f0e9d3ef507410a3a0f930e26"), looks := true }, kinds := [], alts := [], laidByText := true, laidKinds := [.sentinel, .sentinel], laidTests := true, laidLooks := .later }
def MemBytesCardSaid : Prop := Claim7.holds Tryd.pinned (.plain (OpenSpec.ofChange memBytesSpec)) memBytesCard

/-- THE TIED CARD OF 'corrallaw7.MemParts'. -/
def memPartsCard : Claim7 := { stood := { row := memPartsRow, standIns := [], harness := (true, "10d9e2c4d3d968b17436e6df4c02c572f6f3332f0e9d3ef507410a3a0f930e26"), looks := true }, kinds := [], alts := [], laidByText := true, laidKinds := [.sentinel, .sentinel], laidTests := true, laidLooks := .later }
def MemPartsCardSaid : Prop := Claim7.holds Tryd.pinned (.plain (OpenSpec.ofChange memPartsSpec)) memPartsCard

/-- THE TIED CARD OF 'corrallaw7.MemPlays'. -/
def memPlaysCard : Claim7 := { stood := { row := memPlaysRow, standIns := [], harness := (true, "10d9e2c4d3d968b17436e6df4c02c572f6f3332f0e9d3ef507410a3a0f930e26"), looks := true }, kinds := [], alts := [], laidByText := true, laidKinds := [.sentinel, .sentinel, .sentinel, .sentinel, .sentinel, .sentinel, .sentinel, .sentinel, .sentinel, .sentinel, .sentinel], laidTests := true, laidLooks := .later }
def MemPlaysCardSaid : Prop := Claim7.holds Tryd.pinned (.plain (OpenSpec.ofChange memPlaysSpec)) memPlaysCard

/-- THE TIED CARD OF 'corrallaw7.MemLines'. -/
def memLinesCard : Claim7 := { stood := { row := memLinesRow, standIns := [], harness := (true, "10d9e2c4d3d968b17436e6df4c02c572f6f3332f0e9d3ef507410a3a0f930e26"), looks := true }, kinds := [], alts := [], laidByText := true, laidKinds := [.sentinel, .sentinel], laidTests := true, laidLooks := .later }
def MemLinesCardSaid : Prop := Claim7.holds Tryd.pinned (.plain (OpenSpec.ofChange memLinesSpec)) memLinesCard

/-- THE SECOND FORM's CARD OF 'corrallaw7.MemEdges'. -/
def memEdgesUptoCard : Claim7 := { stood := { row := memEdgesUptoRow, standIns := [], harness := (true, "10d9e2c4d3d968b17436e6df4c02c572f6f3332f0e9d3ef507410a3a0f930e26"), looks := true }, kinds := [], alts := [], laidByText := true, laidKinds := [.sentinel, .sentinel, .sentinel, .sentinel, .sentinel, .sentinel, .sentinel, .sentinel, .sentinel, .sentinel, .sentinel], laidTests := true, laidLooks := .later }
def MemEdgesUptoCardSaid : Prop := Claim7.holds Tryd.pinned (.plain (OpenSpec.upto memEdgesSpec)) memEdgesUptoCard

/-- THE SECOND FORM's CARD OF 'corrallaw7.MemBytes'. -/
def memBytesUptoCard : Claim7 := { stood := { row := memBytesUptoRow, standIns := [], harness := (true, "10d9e2c4d3d968b17436e6df4c02c572f6f3332f0e9d3ef507410a3a0f930e26"), looks := true }, kinds := [], alts := [], laidByText := true, laidKinds := [.sentinel, .sentinel], laidTests := true, laidLooks := .later }
def MemBytesUptoCardSaid : Prop := Claim7.holds Tryd.pinned (.plain (OpenSpec.upto memBytesSpec)) memBytesUptoCard

/-- THE SECOND FORM's CARD OF 'corrallaw7.MemParts'. -/
def memPartsUptoCard : Claim7 := { stood := { row := memPartsUptoRow, standIns := [], harness := (true, "10d9e2c4d3d968b17436e6df4c02c572f6f3332f0e9d3ef507410a3a0f930e26"), looks := true }, kinds := [], alts := [], laidByText := true, laidKinds := [.sentinel, .sentinel], laidTests := true, laidLooks := .later }
def MemPartsUptoCardSaid : Prop := Claim7.holds Tryd.pinned (.plain (OpenSpec.upto memPartsSpec)) memPartsUptoCard

/-- THE SECOND FORM's CARD OF 'corrallaw7.MemPlays'. -/
def memPlaysUptoCard : Claim7 := { stood := { row := memPlaysUptoRow, standIns := [], harness := (true, "10d9e2c4d3d968b17436e6df4c02c572f6f3332f0e9d3ef507410a3a0f930e26"), looks := true }, kinds := [], alts := [], laidByText := true, laidKinds := [.sentinel, .sentinel, .sentinel, .sentinel, .sentinel, .sentinel, .sentinel, .sentinel, .sentinel, .sentinel, .sentinel], laidTests := true, laidLooks := .later }
def MemPlaysUptoCardSaid : Prop := Claim7.holds Tryd.pinned (.plain (OpenSpec.upto memPlaysSpec)) memPlaysUptoCard

/-- THE SECOND FORM's CARD OF 'corrallaw7.MemLines'. -/
def memLinesUptoCard : Claim7 := { stood := { row := memLinesUptoRow, standIns := [], harness := (true, "10d9e2c4d3d968b17436e6df4c02c572f6f3332f0e9d3ef507410a3a0f930e26"), looks := true }, kinds := [], alts := [], laidByText := true, laidKinds := [.sentinel, .sentinel], laidTests := true, laidLooks := .later }
def MemLinesUptoCardSaid : Prop := Claim7.holds Tryd.pinned (.plain (OpenSpec.upto memLinesSpec)) memLinesUptoCard
end Rows
end Go.Proofs.YtncninjgfllcdaaDoor
