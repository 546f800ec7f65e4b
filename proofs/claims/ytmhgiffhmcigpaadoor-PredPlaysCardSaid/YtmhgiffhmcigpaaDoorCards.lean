/-
  DERIVED. GIVEN WITH THE SEED: THE CARDS: each row of YtmhgiffhmcigpaaDoorRows.lean that lists a variable, with what it lists TIED to the program's text (the seventh form; the later family's looks); each row that meets fmt, with fmt's text TOLD by the authors' own Lean function (tested against real Go, not proved from fmt's source: count such statements apart). THE CARD IS WHAT COUNTS. Prove the row's statement (the work); the ties are given (YtmhgiffhmcigpaaDoorTie.lean); close each card by the builder's one call (the guide's Derived/Test/ToyasCard.lean, 'card_holds'). Laid BY PROGRAM, IN A SANDBOX (cutbox-door.mjs). By AI agents, Wed Nov 11 2026. No macro, syntax, notation, axiom, sorry.
-/
import Derived.Test.YtmhgiffhmcigpaaDoorRows
import GoSem.ClaimSeven
namespace Go.Proofs.YtmhgiffhmcigpaaDoor
namespace Rows

/-- THE TIED CARD OF 'corrallaw22.PredLearns'. -/
def predLearnsCard : Claim7 := { stood := { row := predLearnsRow, standIns := [], harness := (true, "77a91f1be135bf0e4c10f808db5baee00585c1edebc1e6ca7a65862ed62fe2c9"), looks := true }, kinds := [], alts := [], laidByText := true, laidKinds := [.sentinel], laidTests := true, laidLooks := .later }
def PredLearnsCardSaid : Prop := Claim7.holds Tryd.pinned (.plain (OpenSpec.ofChange predLearnsSpec)) predLearnsCard

/-- THE TIED CARD OF 'corrallaw22.PredTargets'. -/
def predTargetsCard : Claim7 := { stood := { row := predTargetsRow, standIns := [], harness := (true, "77a91f1be135bf0e4c10f808db5baee00585c1edebc1e6ca7a65862ed62fe2c9"), looks := true }, kinds := [], alts := [], laidByText := true, laidKinds := [.sentinel], laidTests := true, laidLooks := .later }
def PredTargetsCardSaid : Prop := Claim7.holds Tryd.pinned (.plain (OpenSpec.ofChange predTargetsSpec)) predTargetsCard

/-- THE TIED CARD OF 'corrallaw22.PredReturns'. -/
def predReturnsCard : Claim7 := { stood := { row := predReturnsRow, standIns := [], harness := (true, "77a91f1be135bf0e4c10f808db5baee00585c1edebc1e6ca7a65862ed62fe2c9"), looks := true }, kinds := [], alts := [], laidByText := true, laidKinds := [.sentinel], laidTests := true, laidLooks := .later }
def PredReturnsCardSaid : Prop := Claim7.holds Tryd.pinned (.plain (OpenSpec.ofChange predReturnsSpec)) predReturnsCard

/-- THE TIED CARD OF 'corrallaw22.PredPlays'. -/
def predPlaysCard : Claim7 := { stood := { row := predPlaysRow, standIns := [], harness := (true, "77a91f1be135bf0e4c10f808db5baee00585c1edebc1e6ca7a65862ed62fe2c9"), looks := true }, kinds := [], alts := [], laidByText := true, laidKinds := [.sentinel, .sentinel, .sentinel, .sentinel, .sentinel, .sentinel, .sentinel, .sentinel, .sentinel, .sentinel, .sentinel], laidTests := true, laidLooks := .later }
def PredPlaysCardSaid : Prop := Claim7.holds Tryd.pinned (.plain (OpenSpec.ofChange predPlaysSpec)) predPlaysCard

/-- THE SECOND FORM's CARD OF 'corrallaw22.PredLearns'. -/
def predLearnsUptoCard : Claim7 := { stood := { row := predLearnsUptoRow, standIns := [], harness := (true, "77a91f1be135bf0e4c10f808db5baee00585c1edebc1e6ca7a65862ed62fe2c9"), looks := true }, kinds := [], alts := [], laidByText := true, laidKinds := [.sentinel], laidTests := true, laidLooks := .later }
def PredLearnsUptoCardSaid : Prop := Claim7.holds Tryd.pinned (.plain (OpenSpec.upto predLearnsSpec)) predLearnsUptoCard

/-- THE SECOND FORM's CARD OF 'corrallaw22.PredTargets'. -/
def predTargetsUptoCard : Claim7 := { stood := { row := predTargetsUptoRow, standIns := [], harness := (true, "77a91f1be135bf0e4c10f808db5baee00585c1edebc1e6ca7a65862ed62fe2c9"), looks := true }, kinds := [], alts := [], laidByText := true, laidKinds := [.sentinel], laidTests := true, laidLooks := .later }
def PredTargetsUptoCardSaid : Prop := Claim7.holds Tryd.pinned (.plain (OpenSpec.upto predTargetsSpec)) predTargetsUptoCard

/-- THE SECOND FORM's CARD OF 'corrallaw22.PredReturns'. -/
def predReturnsUptoCard : Claim7 := { stood := { row := predReturnsUptoRow, standIns := [], harness := (true, "77a91f1be135bf0e4c10f808db5baee00585c1edebc1e6ca7a65862ed62fe2c9"), looks := true }, kinds := [], alts := [], laidByText := true, laidKinds := [.sentinel], laidTests := true, laidLooks := .later }
def PredReturnsUptoCardSaid : Prop := Claim7.holds Tryd.pinned (.plain (OpenSpec.upto predReturnsSpec)) predReturnsUptoCard

/-- THE SECOND FORM's CARD OF 'corrallaw22.PredPlays'. -/
def predPlaysUptoCard : Claim7 := { stood := { row := predPlaysUptoRow, standIns := [], harness := (true, "77a91f1be135bf0e4c10f808db5baee00585c1edebc1e6ca7a65862ed62fe2c9"), looks := true }, kinds := [], alts := [], laidByText := true, laidKinds := [.sentinel, .sentinel, .sentinel, .sentinel, .sentinel, .sentinel, .sentinel, .sentinel, .sentinel, .sentinel, .sentinel], laidTests := true, laidLooks := .later }
def PredPlaysUptoCardSaid : Prop := Claim7.holds Tryd.pinned (.plain (OpenSpec.upto predPlaysSpec)) predPlaysUptoCard
end Rows
end Go.Proofs.YtmhgiffhmcigpaaDoor
