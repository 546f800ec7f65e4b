/-
  DERIVED. GIVEN WITH THE SEED: THE CARDS: each row of YthmofpilphfkcaaDoorRows.lean that lists a variable, with what it lists TIED to the program's text (the seventh form; the later family's looks); each row that meets fmt, with fmt's text TOLD by the authors' own Lean function (tested against real Go, not proved from fmt's source: count such statements apart). THE CARD IS WHAT COUNTS. Prove the row's statement (the work); the ties are given (YthmofpilphfkcaaDoorTie.lean); close each card by the builder's one call (the guide's Derived/Test/ToyasCard.lean, 'card_holds'). Laid BY PROGRAM, IN A SANDBOX (cutbox-door.mjs). By AI agents, Wed Nov 11 2026. No macro, syntax, notation, axiom, sorry.
-/
import Derived.Test.YthmofpilphfkcaaDoorRows
import GoSem.ClaimSeven
namespace Go.Proofs.YthmofpilphfkcaaDoor
namespace Rows

/-- THE TIED CARD OF 'corrallaw24.RobOrder'. -/
def robOrderCard : Claim7 := { stood := { row := robOrderRow, standIns := [], harness := (true, "6bb75660860bf7ff7735985e444b07d60f086e4ed780bbc20541687ea1eddd03"), looks := true }, kinds := [], alts := [], laidByText := true, laidKinds := [.sentinel], laidTests := true, laidLooks := .later }
def RobOrderCardSaid : Prop := Claim7.holds Tryd.pinned (.plain (OpenSpec.ofChange robOrderSpec)) robOrderCard

/-- THE TIED CARD OF 'corrallaw24.RobCuts'. -/
def robCutsCard : Claim7 := { stood := { row := robCutsRow, standIns := [], harness := (true, "6bb75660860bf7ff7735985e444b07d60f086e4ed780bbc20541687ea1eddd03"), looks := true }, kinds := [], alts := [], laidByText := true, laidKinds := [.sentinel], laidTests := true, laidLooks := .later }
def RobCutsCardSaid : Prop := Claim7.holds Tryd.pinned (.plain (OpenSpec.ofChange robCutsSpec)) robCutsCard

/-- THE TIED CARD OF 'corrallaw24.RobPlays'. -/
def robPlaysCard : Claim7 := { stood := { row := robPlaysRow, standIns := [], harness := (true, "6bb75660860bf7ff7735985e444b07d60f086e4ed780bbc20541687ea1eddd03"), looks := true }, kinds := [], alts := [], laidByText := true, laidKinds := [.sentinel, .sentinel, .sentinel, .sentinel, .sentinel, .sentinel, .sentinel, .sentinel, .sentinel, .sentinel, .sentinel], laidTests := true, laidLooks := .later }
def RobPlaysCardSaid : Prop := Claim7.holds Tryd.pinned (.plain (OpenSpec.ofChange robPlaysSpec)) robPlaysCard

/-- THE SECOND FORM's CARD OF 'corrallaw24.RobOrder'. -/
def robOrderUptoCard : Claim7 := { stood := { row := robOrderUptoRow, standIns := [], harness := (true, "6bb75660860bf7ff7735985e444b07d60f086e4ed780bbc20541687ea1eddd03"), looks := true }, kinds := [], alts := [], laidByText := true, laidKinds := [.sentinel], laidTests := true, laidLooks := .later }
def RobOrderUptoCardSaid : Prop := Claim7.holds Tryd.pinned (.plain (OpenSpec.upto robOrderSpec)) robOrderUptoCard

/-- THE SECOND FORM's CARD OF 'corrallaw24.RobCuts'. -/
def robCutsUptoCard : Claim7 := { stood := { row := robCutsUptoRow, standIns := [], harness := (true, "6bb75660860bf7ff7735985e444b07d60f086e4ed780bbc20541687ea1eddd03"), looks := true }, kinds := [], alts := [], laidByText := true, laidKinds := [.sentinel], laidTests := true, laidLooks := .later }
def RobCutsUptoCardSaid : Prop := Claim7.holds Tryd.pinned (.plain (OpenSpec.upto robCutsSpec)) robCutsUptoCard

/-- THE SECOND FORM's CARD OF 'corrallaw24.RobPlays'. -/
def robPlaysUptoCard : Claim7 := { stood := { row := robPlaysUptoRow, standIns := [], harness := (true, "6bb75660860bf7ff7735985e444b07d60f086e4ed780bbc20541687ea1eddd03"), looks := true }, kinds := [], alts := [], laidByText := true, laidKinds := [.sentinel, .sentinel, .sentinel, .sentinel, .sentinel, .sentinel, .sentinel, .sentinel, .sentinel, .sentinel, .sentinel], laidTests := true, laidLooks := .later }
def RobPlaysUptoCardSaid : Prop := Claim7.holds Tryd.pinned (.plain (OpenSpec.upto robPlaysSpec)) robPlaysUptoCard
end Rows
end Go.Proofs.YthmofpilphfkcaaDoor
