/-
  DERIVED. GIVEN WITH THE SEED: THE CARDS: each row of YtkfkoldaeplckaaDoorRows.lean that lists a variable, with what it lists TIED to the program's text (the seventh form; the later family's looks); each row that meets fmt, with fmt's text TOLD by the authors' own Lean function (tested against real Go, not proved from fmt's source: count such statements apart). THE CARD IS WHAT COUNTS. Prove the row's statement (the work); the ties are given (YtkfkoldaeplckaaDoorTie.lean); close each card by the builder's one call (the guide's Derived/Test/ToyasCard.lean, 'card_holds'). Laid BY PROGRAM, IN A SANDBOX (cutbox-door.mjs). By AI agents, Wed Nov 11 2026. No macro, syntax, notation, axiom, sorry.
-/
import Derived.Test.YtkfkoldaeplckaaDoorRows
import GoSem.ClaimSeven
namespace Go.Proofs.YtkfkoldaeplckaaDoor
namespace Rows

/-- THE TIED CARD OF 'corrallaw14.WmoInTurn'. -/
def wmoInTurnCard : Claim7 := { stood := { row := wmoInTurnRow, standIns := [], harness := (true, "60d041dd7b6adb39eccc2b0016f133be69092987f72b2bc090f6465e4c043ea4"), looks := true }, kinds := [], alts := [], laidByText := true, laidKinds := [.sentinel, .sentinel, .sentinel, .sentinel, .sentinel, .sentinel, .sentinel, .sentinel, .sentinel, .sentinel, .sentinel], laidTests := true, laidLooks := .later }
def WmoInTurnCardSaid : Prop := Claim7.holds Tryd.pinned (.plain (OpenSpec.ofChange wmoInTurnSpec)) wmoInTurnCard

/-- THE TIED CARD OF 'corrallaw14.WmoForwards'. -/
def wmoForwardsCard : Claim7 := { stood := { row := wmoForwardsRow, standIns := [], harness := (true, "60d041dd7b6adb39eccc2b0016f133be69092987f72b2bc090f6465e4c043ea4"), looks := true }, kinds := [], alts := [], laidByText := true, laidKinds := [.sentinel, .sentinel, .sentinel, .sentinel, .sentinel, .sentinel, .sentinel, .sentinel, .sentinel, .sentinel, .sentinel], laidTests := true, laidLooks := .later }
def WmoForwardsCardSaid : Prop := Claim7.holds Tryd.pinned (.plain (OpenSpec.ofChange wmoForwardsSpec)) wmoForwardsCard

/-- THE TIED CARD OF 'corrallaw14.WmoHands'. -/
def wmoHandsCard : Claim7 := { stood := { row := wmoHandsRow, standIns := [], harness := (true, "60d041dd7b6adb39eccc2b0016f133be69092987f72b2bc090f6465e4c043ea4"), looks := true }, kinds := [], alts := [], laidByText := true, laidKinds := [.sentinel, .sentinel, .sentinel, .sentinel, .sentinel, .sentinel, .sentinel, .sentinel, .sentinel, .sentinel, .sentinel], laidTests := true, laidLooks := .later }
def WmoHandsCardSaid : Prop := Claim7.holds Tryd.pinned (.plain (OpenSpec.ofChange wmoHandsSpec)) wmoHandsCard

/-- THE TIED CARD OF 'corrallaw14.WmoAlone'. -/
def wmoAloneCard : Claim7 := { stood := { row := wmoAloneRow, standIns := [], harness := (true, "60d041dd7b6adb39eccc2b0016f133be69092987f72b2bc090f6465e4c043ea4"), looks := true }, kinds := [], alts := [], laidByText := true, laidKinds := [.sentinel, .sentinel, .sentinel, .sentinel, .sentinel, .sentinel, .sentinel, .sentinel, .sentinel, .sentinel, .sentinel], laidTests := true, laidLooks := .later }
def WmoAloneCardSaid : Prop := Claim7.holds Tryd.pinned (.plain (OpenSpec.ofChange wmoAloneSpec)) wmoAloneCard

/-- THE TIED CARD OF 'corrallaw14.WmoMixed'. -/
def wmoMixedCard : Claim7 := { stood := { row := wmoMixedRow, standIns := [], harness := (true, "60d041dd7b6adb39eccc2b0016f133be69092987f72b2bc090f6465e4c043ea4"), looks := true }, kinds := [], alts := [], laidByText := true, laidKinds := [.sentinel, .sentinel, .sentinel, .sentinel, .sentinel, .sentinel, .sentinel, .sentinel, .sentinel, .sentinel, .sentinel], laidTests := true, laidLooks := .later }
def WmoMixedCardSaid : Prop := Claim7.holds Tryd.pinned (.plain (OpenSpec.ofChange wmoMixedSpec)) wmoMixedCard

/-- THE TIED CARD OF 'corrallaw15.LitmusOne'. -/
def litmusOneCard : Claim7 := { stood := { row := litmusOneRow, standIns := [], harness := (true, "60d041dd7b6adb39eccc2b0016f133be69092987f72b2bc090f6465e4c043ea4"), looks := true }, kinds := [], alts := [], laidByText := true, laidKinds := [.sentinel, .sentinel], laidTests := true, laidLooks := .later }
def LitmusOneCardSaid : Prop := Claim7.holds Tryd.pinned (.plain (OpenSpec.ofChange litmusOneSpec)) litmusOneCard

/-- THE TIED CARD OF 'corrallaw15.LitmusFences'. -/
def litmusFencesCard : Claim7 := { stood := { row := litmusFencesRow, standIns := [], harness := (true, "60d041dd7b6adb39eccc2b0016f133be69092987f72b2bc090f6465e4c043ea4"), looks := true }, kinds := [], alts := [], laidByText := true, laidKinds := [.sentinel, .sentinel], laidTests := true, laidLooks := .later }
def LitmusFencesCardSaid : Prop := Claim7.holds Tryd.pinned (.plain (OpenSpec.ofChange litmusFencesSpec)) litmusFencesCard

/-- THE TIED CARD OF 'corrallaw15.LitmusSwaps'. -/
def litmusSwapsCard : Claim7 := { stood := { row := litmusSwapsRow, standIns := [], harness := (true, "60d041dd7b6adb39eccc2b0016f133be69092987f72b2bc090f6465e4c043ea4"), looks := true }, kinds := [], alts := [], laidByText := true, laidKinds := [.sentinel, .sentinel], laidTests := true, laidLooks := .later }
def LitmusSwapsCardSaid : Prop := Claim7.holds Tryd.pinned (.plain (OpenSpec.ofChange litmusSwapsSpec)) litmusSwapsCard

/-- THE TIED CARD OF 'corrallaw15.LitmusHands'. -/
def litmusHandsCard : Claim7 := { stood := { row := litmusHandsRow, standIns := [], harness := (true, "60d041dd7b6adb39eccc2b0016f133be69092987f72b2bc090f6465e4c043ea4"), looks := true }, kinds := [], alts := [], laidByText := true, laidKinds := [.sentinel, .sentinel], laidTests := true, laidLooks := .later }
def LitmusHandsCardSaid : Prop := Claim7.holds Tryd.pinned (.plain (OpenSpec.ofChange litmusHandsSpec)) litmusHandsCard

/-- THE SECOND FORM's CARD OF 'corrallaw14.WmoInTurn'. -/
def wmoInTurnUptoCard : Claim7 := { stood := { row := wmoInTurnUptoRow, standIns := [], harness := (true, "60d041dd7b6adb39eccc2b0016f133be69092987f72b2bc090f6465e4c043ea4"), looks := true }, kinds := [], alts := [], laidByText := true, laidKinds := [.sentinel, .sentinel, .sentinel, .sentinel, .sentinel, .sentinel, .sentinel, .sentinel, .sentinel, .sentinel, .sentinel], laidTests := true, laidLooks := .later }
def WmoInTurnUptoCardSaid : Prop := Claim7.holds Tryd.pinned (.plain (OpenSpec.upto wmoInTurnSpec)) wmoInTurnUptoCard

/-- THE SECOND FORM's CARD OF 'corrallaw14.WmoForwards'. -/
def wmoForwardsUptoCard : Claim7 := { stood := { row := wmoForwardsUptoRow, standIns := [], harness := (true, "60d041dd7b6adb39eccc2b0016f133be69092987f72b2bc090f6465e4c043ea4"), looks := true }, kinds := [], alts := [], laidByText := true, laidKinds := [.sentinel, .sentinel, .sentinel, .sentinel, .sentinel, .sentinel, .sentinel, .sentinel, .sentinel, .sentinel, .sentinel], laidTests := true, laidLooks := .later }
def WmoForwardsUptoCardSaid : Prop := Claim7.holds Tryd.pinned (.plain (OpenSpec.upto wmoForwardsSpec)) wmoForwardsUptoCard

/-- THE SECOND FORM's CARD OF 'corrallaw14.WmoHands'. -/
def wmoHandsUptoCard : Claim7 := { stood := { row := wmoHandsUptoRow, standIns := [], harness := (true, "60d041dd7b6adb39eccc2b0016f133be69092987f72b2bc090f6465e4c043ea4"), looks := true }, kinds := [], alts := [], laidByText := true, laidKinds := [.sentinel, .sentinel, .sentinel, .sentinel, .sentinel, .sentinel, .sentinel, .sentinel, .sentinel, .sentinel, .sentinel], laidTests := true, laidLooks := .later }
def WmoHandsUptoCardSaid : Prop := Claim7.holds Tryd.pinned (.plain (OpenSpec.upto wmoHandsSpec)) wmoHandsUptoCard

/-- THE SECOND FORM's CARD OF 'corrallaw14.WmoAlone'. -/
def wmoAloneUptoCard : Claim7 := { stood := { row := wmoAloneUptoRow, standIns := [], harness := (true, "60d041dd7b6adb39eccc2b0016f133be69092987f72b2bc090f6465e4c043ea4"), looks := true }, kinds := [], alts := [], laidByText := true, laidKinds := [.sentinel, .sentinel, .sentinel, .sentinel, .sentinel, .sentinel, .sentinel, .sentinel, .sentinel, .sentinel, .sentinel], laidTests := true, laidLooks := .later }
def WmoAloneUptoCardSaid : Prop := Claim7.holds Tryd.pinned (.plain (OpenSpec.upto wmoAloneSpec)) wmoAloneUptoCard

/-- THE SECOND FORM's CARD OF 'corrallaw14.WmoMixed'. -/
def wmoMixedUptoCard : Claim7 := { stood := { row := wmoMixedUptoRow, standIns := [], harness := (true, "60d041dd7b6adb39eccc2b0016f133be69092987f72b2bc090f6465e4c043ea4"), looks := true }, kinds := [], alts := [], laidByText := true, laidKinds := [.sentinel, .sentinel, .sentinel, .sentinel, .sentinel, .sentinel, .sentinel, .sentinel, .sentinel, .sentinel, .sentinel], laidTests := true, laidLooks := .later }
def WmoMixedUptoCardSaid : Prop := Claim7.holds Tryd.pinned (.plain (OpenSpec.upto wmoMixedSpec)) wmoMixedUptoCard

/-- THE SECOND FORM's CARD OF 'corrallaw15.LitmusOne'. -/
def litmusOneUptoCard : Claim7 := { stood := { row := litmusOneUptoRow, standIns := [], harness := (true, "60d041dd7b6adb39eccc2b0016f133be69092987f72b2bc090f6465e4c043ea4"), looks := true }, kinds := [], alts := [], laidByText := true, laidKinds := [.sentinel, .sentinel], laidTests := true, laidLooks := .later }
def LitmusOneUptoCardSaid : Prop := Claim7.holds Tryd.pinned (.plain (OpenSpec.upto litmusOneSpec)) litmusOneUptoCard

/-- THE SECOND FORM's CARD OF 'corrallaw15.LitmusFences'. -/
def litmusFencesUptoCard : Claim7 := { stood := { row := litmusFencesUptoRow, standIns := [], harness := (true, "60d041dd7b6adb39eccc2b0016f133be69092987f72b2bc090f6465e4c043ea4"), looks := true }, kinds := [], alts := [], laidByText := true, laidKinds := [.sentinel, .sentinel], laidTests := true, laidLooks := .later }
def LitmusFencesUptoCardSaid : Prop := Claim7.holds Tryd.pinned (.plain (OpenSpec.upto litmusFencesSpec)) litmusFencesUptoCard

/-- THE SECOND FORM's CARD OF 'corrallaw15.LitmusSwaps'. -/
def litmusSwapsUptoCard : Claim7 := { stood := { row := litmusSwapsUptoRow, standIns := [], harness := (true, "60d041dd7b6adb39eccc2b0016f133be69092987f72b2bc090f6465e4c043ea4"), looks := true }, kinds := [], alts := [], laidByText := true, laidKinds := [.sentinel, .sentinel], laidTests := true, laidLooks := .later }
def LitmusSwapsUptoCardSaid : Prop := Claim7.holds Tryd.pinned (.plain (OpenSpec.upto litmusSwapsSpec)) litmusSwapsUptoCard

/-- THE SECOND FORM's CARD OF 'corrallaw15.LitmusHands'. -/
def litmusHandsUptoCard : Claim7 := { stood := { row := litmusHandsUptoRow, standIns := [], harness := (true, "60d041dd7b6adb39eccc2b0016f133be69092987f72b2bc090f6465e4c043ea4"), looks := true }, kinds := [], alts := [], laidByText := true, laidKinds := [.sentinel, .sentinel], laidTests := true, laidLooks := .later }
def LitmusHandsUptoCardSaid : Prop := Claim7.holds Tryd.pinned (.plain (OpenSpec.upto litmusHandsSpec)) litmusHandsUptoCard
end Rows
end Go.Proofs.YtkfkoldaeplckaaDoor
