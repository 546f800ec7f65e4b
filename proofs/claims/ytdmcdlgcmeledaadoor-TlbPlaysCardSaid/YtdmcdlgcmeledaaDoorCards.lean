/-
  DERIVED. GIVEN WITH THE SEED: THE CARDS: each row of YtdmcdlgcmeledaaDoorRows.lean that lists a variable, with what it lists TIED to the program's text (the seventh form; the later family's looks); each row that meets fmt, with fmt's text TOLD by the authors' own Lean function (tested against real Go, not proved from fmt's source: count such statements apart). THE CARD IS WHAT COUNTS. Prove the row's statement (the work); the ties are given (YtdmcdlgcmeledaaDoorTie.lean); close each card by the builder's one call (the guide's Derived/Test/ToyasCard.lean, 'card_holds'). Laid BY PROGRAM, IN A SANDBOX (cutbox-door.mjs). By AI agents, Wed Nov 11 2026. No macro, syntax, notation, axiom, sorry.
-/
import Derived.Test.YtdmcdlgcmeledaaDoorRows
import GoSem.ClaimSeven
namespace Go.Proofs.YtdmcdlgcmeledaaDoor
namespace Rows

/-- THE TIED CARD OF 'corrallaw21.TlbPlays'. -/
def tlbPlaysCard : Claim7 := { stood := { row := tlbPlaysRow, standIns := [], harness := (true, "396fbe94cd265bcb299179922bce865bd2ebec4a0f587a6e79f0ea4d2e7bc162"), looks := true }, kinds := [], alts := [], laidByText := true, laidKinds := [.sentinel, .sentinel, .sentinel, .sentinel, .sentinel, .sentinel, .sentinel, .sentinel, .sentinel, .sentinel, .sentinel], laidTests := true, laidLooks := .later }
def TlbPlaysCardSaid : Prop := Claim7.holds Tryd.pinned (.plain (OpenSpec.ofChange tlbPlaysSpec)) tlbPlaysCard

/-- THE TIED CARD OF 'corrallaw21.TlbTurns'. -/
def tlbTurnsCard : Claim7 := { stood := { row := tlbTurnsRow, standIns := [], harness := (true, "396fbe94cd265bcb299179922bce865bd2ebec4a0f587a6e79f0ea4d2e7bc162"), looks := true }, kinds := [], alts := [], laidByText := true, laidKinds := [.sentinel], laidTests := true, laidLooks := .later }
def TlbTurnsCardSaid : Prop := Claim7.holds Tryd.pinned (.plain (OpenSpec.ofChange tlbTurnsSpec)) tlbTurnsCard

/-- THE SECOND FORM's CARD OF 'corrallaw21.TlbPlays'. -/
def tlbPlaysUptoCard : Claim7 := { stood := { row := tlbPlaysUptoRow, standIns := [], harness := (true, "396fbe94cd265bcb299179922bce865bd2ebec4a0f587a6e79f0ea4d2e7bc162"), looks := true }, kinds := [], alts := [], laidByText := true, laidKinds := [.sentinel, .sentinel, .sentinel, .sentinel, .sentinel, .sentinel, .sentinel, .sentinel, .sentinel, .sentinel, .sentinel], laidTests := true, laidLooks := .later }
def TlbPlaysUptoCardSaid : Prop := Claim7.holds Tryd.pinned (.plain (OpenSpec.upto tlbPlaysSpec)) tlbPlaysUptoCard

/-- THE SECOND FORM's CARD OF 'corrallaw21.TlbTurns'. -/
def tlbTurnsUptoCard : Claim7 := { stood := { row := tlbTurnsUptoRow, standIns := [], harness := (true, "396fbe94cd265bcb299179922bce865bd2ebec4a0f587a6e79f0ea4d2e7bc162"), looks := true }, kinds := [], alts := [], laidByText := true, laidKinds := [.sentinel], laidTests := true, laidLooks := .later }
def TlbTurnsUptoCardSaid : Prop := Claim7.holds Tryd.pinned (.plain (OpenSpec.upto tlbTurnsSpec)) tlbTurnsUptoCard
end Rows
end Go.Proofs.YtdmcdlgcmeledaaDoor
