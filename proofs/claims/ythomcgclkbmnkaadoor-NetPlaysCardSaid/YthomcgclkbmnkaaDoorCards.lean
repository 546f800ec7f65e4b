/-
  DERIVED. GIVEN WITH THE SEED: THE CARDS: each row of YthomcgclkbmnkaaDoorRows.lean that lists a variable, with what it lists TIED to the program's text (the seventh form; the later family's looks); each row that meets fmt, with fmt's text TOLD by the authors' own Lean function (tested against real Go, not proved from fmt's source: count such statements apart). THE CARD IS WHAT COUNTS. Prove the row's statement (the work); the ties are given (YthomcgclkbmnkaaDoorTie.lean); close each card by the builder's one call (the guide's Derived/Test/ToyasCard.lean, 'card_holds'). Laid BY PROGRAM, IN A SANDBOX (cutbox-door.mjs). By AI agents, Wed Nov 11 2026. No macro, syntax, notation, axiom, sorry.
-/
import Derived.Test.YthomcgclkbmnkaaDoorRows
import GoSem.ClaimSeven
namespace Go.Proofs.YthomcgclkbmnkaaDoor
namespace Rows

/-- THE TIED CARD OF 'corrallaw16.NetWhole'. -/
def netWholeCard : Claim7 := { stood := { row := netWholeRow, standIns := [], harness := (true, "78c997dc9c2d774bdc1dde038d166c71c1943ee1d672e33e4e55e7597608afe6"), looks := true }, kinds := [], alts := [], laidByText := true, laidKinds := [.sentinel, .sentinel, .sentinel, .sentinel, .sentinel, .sentinel, .sentinel, .sentinel, .sentinel, .sentinel, .sentinel], laidTests := true, laidLooks := .later }
def NetWholeCardSaid : Prop := Claim7.holds Tryd.pinned (.plain (OpenSpec.ofChange netWholeSpec)) netWholeCard

/-- THE TIED CARD OF 'corrallaw16.NetLinks'. -/
def netLinksCard : Claim7 := { stood := { row := netLinksRow, standIns := [], harness := (true, "78c997dc9c2d774bdc1dde038d166c71c1943ee1d672e33e4e55e7597608afe6"), looks := true }, kinds := [], alts := [], laidByText := true, laidKinds := [.sentinel, .sentinel, .sentinel, .sentinel, .sentinel, .sentinel, .sentinel, .sentinel, .sentinel, .sentinel, .sentinel], laidTests := true, laidLooks := .later }
def NetLinksCardSaid : Prop := Claim7.holds Tryd.pinned (.plain (OpenSpec.ofChange netLinksSpec)) netLinksCard

/-- THE TIED CARD OF 'corrallaw16.NetKeeps'. -/
def netKeepsCard : Claim7 := { stood := { row := netKeepsRow, standIns := [], harness := (true, "78c997dc9c2d774bdc1dde038d166c71c1943ee1d672e33e4e55e7597608afe6"), looks := true }, kinds := [], alts := [], laidByText := true, laidKinds := [.sentinel, .sentinel, .sentinel, .sentinel, .sentinel, .sentinel, .sentinel, .sentinel, .sentinel, .sentinel, .sentinel], laidTests := true, laidLooks := .later }
def NetKeepsCardSaid : Prop := Claim7.holds Tryd.pinned (.plain (OpenSpec.ofChange netKeepsSpec)) netKeepsCard

/-- THE TIED CARD OF 'corrallaw16.NetPlays'. -/
def netPlaysCard : Claim7 := { stood := { row := netPlaysRow, standIns := [], harness := (true, "78c997dc9c2d774bdc1dde038d166c71c1943ee1d672e33e4e55e7597608afe6"), looks := true }, kinds := [], alts := [], laidByText := true, laidKinds := [.sentinel, .sentinel, .sentinel, .sentinel, .sentinel, .sentinel, .sentinel, .sentinel, .sentinel, .sentinel, .sentinel], laidTests := true, laidLooks := .later }
def NetPlaysCardSaid : Prop := Claim7.holds Tryd.pinned (.plain (OpenSpec.ofChange netPlaysSpec)) netPlaysCard

/-- THE SECOND FORM's CARD OF 'corrallaw16.NetWhole'. -/
def netWholeUptoCard : Claim7 := { stood := { row := netWholeUptoRow, standIns := [], harness := (true, "78c997dc9c2d774bdc1dde038d166c71c1943ee1d672e33e4e55e7597608afe6"), looks := true }, kinds := [], alts := [], laidByText := true, laidKinds := [.sentinel, .sentinel, .sentinel, .sentinel, .sentinel, .sentinel, .sentinel, .sentinel, .sentinel, .sentinel, .sentinel], laidTests := true, laidLooks := .later }
def NetWholeUptoCardSaid : Prop := Claim7.holds Tryd.pinned (.plain (OpenSpec.upto netWholeSpec)) netWholeUptoCard

/-- THE SECOND FORM's CARD OF 'corrallaw16.NetLinks'. -/
def netLinksUptoCard : Claim7 := { stood := { row := netLinksUptoRow, standIns := [], harness := (true, "78c997dc9c2d774bdc1dde038d166c71c1943ee1d672e33e4e55e7597608afe6"), looks := true }, kinds := [], alts := [], laidByText := true, laidKinds := [.sentinel, .sentinel, .sentinel, .sentinel, .sentinel, .sentinel, .sentinel, .sentinel, .sentinel, .sentinel, .sentinel], laidTests := true, laidLooks := .later }
def NetLinksUptoCardSaid : Prop := Claim7.holds Tryd.pinned (.plain (OpenSpec.upto netLinksSpec)) netLinksUptoCard

/-- THE SECOND FORM's CARD OF 'corrallaw16.NetKeeps'. -/
def netKeepsUptoCard : Claim7 := { stood := { row := netKeepsUptoRow, standIns := [], harness := (true, "78c997dc9c2d774bdc1dde038d166c71c1943ee1d672e33e4e55e7597608afe6"), looks := true }, kinds := [], alts := [], laidByText := true, laidKinds := [.sentinel, .sentinel, .sentinel, .sentinel, .sentinel, .sentinel, .sentinel, .sentinel, .sentinel, .sentinel, .sentinel], laidTests := true, laidLooks := .later }
def NetKeepsUptoCardSaid : Prop := Claim7.holds Tryd.pinned (.plain (OpenSpec.upto netKeepsSpec)) netKeepsUptoCard

/-- THE SECOND FORM's CARD OF 'corrallaw16.NetPlays'. -/
def netPlaysUptoCard : Claim7 := { stood := { row := netPlaysUptoRow, standIns := [], harness := (true, "78c997dc9c2d774bdc1dde038d166c71c1943ee1d672e33e4e55e7597608afe6"), looks := true }, kinds := [], alts := [], laidByText := true, laidKinds := [.sentinel, .sentinel, .sentinel, .sentinel, .sentinel, .sentinel, .sentinel, .sentinel, .sentinel, .sentinel, .sentinel], laidTests := true, laidLooks := .later }
def NetPlaysUptoCardSaid : Prop := Claim7.holds Tryd.pinned (.plain (OpenSpec.upto netPlaysSpec)) netPlaysUptoCard
end Rows
end Go.Proofs.YthomcgclkbmnkaaDoor
