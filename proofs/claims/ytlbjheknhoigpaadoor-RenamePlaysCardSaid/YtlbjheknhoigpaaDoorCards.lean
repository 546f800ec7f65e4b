/-
  DERIVED. GIVEN WITH THE SEED: THE CARDS: each row of YtlbjheknhoigpaaDoorRows.lean that lists a variable, with what it lists TIED to the program's text (the seventh form; the later family's looks); each row that meets fmt, with fmt's text TOLD by the authors' own Lean function (tested against real Go, not proved from fmt's source: count such statements apart). THE CARD IS WHAT COUNTS. Prove the row's statement (the work); the ties are given (YtlbjheknhoigpaaDoorTie.lean); close each card by the builder's one call (the guide's Derived/Test/ToyasCard.lean, 'card_holds'). Laid BY PROGRAM, IN A SANDBOX (cutbox-door.mjs). By AI agents, Wed Nov 11 2026. No macro, syntax, notation, axiom, sorry.
-/
import Derived.Test.YtlbjheknhoigpaaDoorRows
import GoSem.ClaimSeven
namespace Go.Proofs.YtlbjheknhoigpaaDoor
namespace Rows

/-- THE TIED CARD OF 'corrallaw23.RenameFrees'. -/
def renameFreesCard : Claim7 := { stood := { row := renameFreesRow, standIns := [], harness := (true, "5a0afd713703e1ec5b30eb2574f8a9a71e8749f046f9ab9eabf20928acd6d15d"), looks := true }, kinds := [], alts := [], laidByText := true, laidKinds := [.sentinel], laidTests := true, laidLooks := .later }
def RenameFreesCardSaid : Prop := Claim7.holds Tryd.pinned (.plain (OpenSpec.ofChange renameFreesSpec)) renameFreesCard

/-- THE TIED CARD OF 'corrallaw23.RenameBack'. -/
def renameBackCard : Claim7 := { stood := { row := renameBackRow, standIns := [], harness := (true, "5a0afd713703e1ec5b30eb2574f8a9a71e8749f046f9ab9eabf20928acd6d15d"), looks := true }, kinds := [], alts := [], laidByText := true, laidKinds := [.sentinel], laidTests := true, laidLooks := .later }
def RenameBackCardSaid : Prop := Claim7.holds Tryd.pinned (.plain (OpenSpec.ofChange renameBackSpec)) renameBackCard

/-- THE TIED CARD OF 'corrallaw23.RenamePlays'. -/
def renamePlaysCard : Claim7 := { stood := { row := renamePlaysRow, standIns := [], harness := (true, "5a0afd713703e1ec5b30eb2574f8a9a71e8749f046f9ab9eabf20928acd6d15d"), looks := true }, kinds := [], alts := [], laidByText := true, laidKinds := [.sentinel, .sentinel, .sentinel, .sentinel, .sentinel, .sentinel, .sentinel, .sentinel, .sentinel, .sentinel, .sentinel], laidTests := true, laidLooks := .later }
def RenamePlaysCardSaid : Prop := Claim7.holds Tryd.pinned (.plain (OpenSpec.ofChange renamePlaysSpec)) renamePlaysCard

/-- THE SECOND FORM's CARD OF 'corrallaw23.RenameFrees'. -/
def renameFreesUptoCard : Claim7 := { stood := { row := renameFreesUptoRow, standIns := [], harness := (true, "5a0afd713703e1ec5b30eb2574f8a9a71e8749f046f9ab9eabf20928acd6d15d"), looks := true }, kinds := [], alts := [], laidByText := true, laidKinds := [.sentinel], laidTests := true, laidLooks := .later }
def RenameFreesUptoCardSaid : Prop := Claim7.holds Tryd.pinned (.plain (OpenSpec.upto renameFreesSpec)) renameFreesUptoCard

/-- THE SECOND FORM's CARD OF 'corrallaw23.RenameBack'. -/
def renameBackUptoCard : Claim7 := { stood := { row := renameBackUptoRow, standIns := [], harness := (true, "5a0afd713703e1ec5b30eb2574f8a9a71e8749f046f9ab9eabf20928acd6d15d"), looks := true }, kinds := [], alts := [], laidByText := true, laidKinds := [.sentinel], laidTests := true, laidLooks := .later }
def RenameBackUptoCardSaid : Prop := Claim7.holds Tryd.pinned (.plain (OpenSpec.upto renameBackSpec)) renameBackUptoCard

/-- THE SECOND FORM's CARD OF 'corrallaw23.RenamePlays'. -/
def renamePlaysUptoCard : Claim7 := { stood := { row := renamePlaysUptoRow, standIns := [], harness := (true, "5a0afd713703e1ec5b30eb2574f8a9a71e8749f046f9ab9eabf20928acd6d15d"), looks := true }, kinds := [], alts := [], laidByText := true, laidKinds := [.sentinel, .sentinel, .sentinel, .sentinel, .sentinel, .sentinel, .sentinel, .sentinel, .sentinel, .sentinel, .sentinel], laidTests := true, laidLooks := .later }
def RenamePlaysUptoCardSaid : Prop := Claim7.holds Tryd.pinned (.plain (OpenSpec.upto renamePlaysSpec)) renamePlaysUptoCard
end Rows
end Go.Proofs.YtlbjheknhoigpaaDoor
