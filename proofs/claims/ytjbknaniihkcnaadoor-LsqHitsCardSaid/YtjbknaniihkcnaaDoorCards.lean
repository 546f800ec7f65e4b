/-
  DERIVED. GIVEN WITH THE SEED: THE CARDS: each row of YtjbknaniihkcnaaDoorRows.lean that lists a variable, with what it lists TIED to the program's text (the seventh form; the later family's looks); each row that meets fmt, with fmt's text TOLD by the authors' own Lean function (tested against real Go, not proved from fmt's source: count such statements apart). THE CARD IS WHAT COUNTS. Prove the row's statement (the work); the ties are given (YtjbknaniihkcnaaDoorTie.lean); close each card by the builder's one call (the guide's Derived/Test/ToyasCard.lean, 'card_holds'). Laid BY PROGRAM, IN A SANDBOX (cutbox-door.mjs). By AI agents, Wed Nov 11 2026. No macro, syntax, notation, axiom, sorry.
-/
import Derived.Test.YtjbknaniihkcnaaDoorRows
import GoSem.ClaimSeven
namespace Go.Proofs.YtjbknaniihkcnaaDoor
namespace Rows

/-- THE TIED CARD OF 'corrallaw25.LsqForwards'. -/
def lsqForwardsCard : Claim7 := { stood := { row := lsqForwardsRow, standIns := [], harness := (true, "d1d4b6ad8db1980572abcabddc2859c7c5f811f4905f418789b8cd6c2b943ff1"), looks := false }, kinds := [], alts := [], laidByText := true, laidKinds := [.sentinel], laidTests := true, laidLooks := .later }
def LsqForwardsCardSaid : Prop := Claim7.holds Tryd.pinned (.plain (OpenSpec.ofChange lsqForwardsSpec)) lsqForwardsCard

/-- THE TIED CARD OF 'corrallaw25.LsqHits'. -/
def lsqHitsCard : Claim7 := { stood := { row := lsqHitsRow, standIns := [], harness := (true, "d1d4b6ad8db1980572abcabddc2859c7c5f811f4905f418789b8cd6c2b943ff1"), looks := false }, kinds := [], alts := [], laidByText := true, laidKinds := [.sentinel], laidTests := true, laidLooks := .later }
def LsqHitsCardSaid : Prop := Claim7.holds Tryd.pinned (.plain (OpenSpec.ofChange lsqHitsSpec)) lsqHitsCard

/-- THE SECOND FORM's CARD OF 'corrallaw25.LsqForwards'. -/
def lsqForwardsUptoCard : Claim7 := { stood := { row := lsqForwardsUptoRow, standIns := [], harness := (true, "d1d4b6ad8db1980572abcabddc2859c7c5f811f4905f418789b8cd6c2b943ff1"), looks := false }, kinds := [], alts := [], laidByText := true, laidKinds := [.sentinel], laidTests := true, laidLooks := .later }
def LsqForwardsUptoCardSaid : Prop := Claim7.holds Tryd.pinned (.plain (OpenSpec.upto lsqForwardsSpec)) lsqForwardsUptoCard

/-- THE SECOND FORM's CARD OF 'corrallaw25.LsqHits'. -/
def lsqHitsUptoCard : Claim7 := { stood := { row := lsqHitsUptoRow, standIns := [], harness := (true, "d1d4b6ad8db1980572abcabddc2859c7c5f811f4905f418789b8cd6c2b943ff1"), looks := false }, kinds := [], alts := [], laidByText := true, laidKinds := [.sentinel], laidTests := true, laidLooks := .later }
def LsqHitsUptoCardSaid : Prop := Claim7.holds Tryd.pinned (.plain (OpenSpec.upto lsqHitsSpec)) lsqHitsUptoCard
end Rows
end Go.Proofs.YtjbknaniihkcnaaDoor
