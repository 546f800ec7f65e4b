/-
  DERIVED. GIVEN WITH THE SEED: THE PROGRAM's TIES (one call each: nine closed facts by the kernel) AND EACH ROW's TIE, after the 31st guide's Derived/Test/Toyas{Tie, Card}.lean. No idea stands in it: it is a product of the set-up. Laid BY PROGRAM, IN A SANDBOX (cutbox-door.mjs). By AI agents, Wed Nov 11 2026. No macro, syntax, notation, axiom, sorry.
-/
import Derived.Test.YtkfkoldaeplckaaDoorRows
import Derived.LaidByTextLater
import Derived.SevenTiedAt
import Derived.LaidSub
import Derived.LaidOnce
namespace Go.Proofs.YtkfkoldaeplckaaDoor
open Go
set_option maxRecDepth 100000
theorem seatTie1 : Tryd.prog.laidByTextLater [("corral/api.ErrMany", Rows.laid_corral_api_ErrMany), ("corral/api.ErrKind", Rows.laid_corral_api_ErrKind), ("corral/api.ErrPlace", Rows.laid_corral_api_ErrPlace), ("corral/api.ErrShape", Rows.laid_corral_api_ErrShape), ("corral/api.ErrWord", Rows.laid_corral_api_ErrWord), ("corral/api.ErrRange", Rows.laid_corral_api_ErrRange), ("corral/api.ErrFull", Rows.laid_corral_api_ErrFull), ("corral/api.ErrNone", Rows.laid_corral_api_ErrNone), ("corral/api.ErrTrace", Rows.laid_corral_api_ErrTrace), ("corral/api.ErrOrder", Rows.laid_corral_api_ErrOrder), ("corral/api.ErrValue", Rows.laid_corral_api_ErrValue)] [.sentinel, .sentinel, .sentinel, .sentinel, .sentinel, .sentinel, .sentinel, .sentinel, .sentinel, .sentinel, .sentinel] true :=
  Program.laidByTextLater_by_one 218 8 2 (by kernel_rfl) (by kernel_rfl) (by kernel_rfl) (by kernel_rfl) (by kernel_rfl) (by kernel_rfl) (fun _ _ => by kernel_rfl)
theorem noOwnUnsafe : Tryd.pinned.checked.prog.headLifts.contains "ownunsafe" = false := by kernel_rfl
theorem tie : Tryd.prog.laidByTextLater [("corral/api.ErrMany", Rows.laid_corral_api_ErrMany), ("corral/api.ErrKind", Rows.laid_corral_api_ErrKind), ("corral/api.ErrPlace", Rows.laid_corral_api_ErrPlace), ("corral/api.ErrShape", Rows.laid_corral_api_ErrShape), ("corral/api.ErrWord", Rows.laid_corral_api_ErrWord), ("corral/api.ErrRange", Rows.laid_corral_api_ErrRange), ("corral/api.ErrFull", Rows.laid_corral_api_ErrFull), ("corral/api.ErrNone", Rows.laid_corral_api_ErrNone), ("corral/api.ErrTrace", Rows.laid_corral_api_ErrTrace), ("corral/api.ErrOrder", Rows.laid_corral_api_ErrOrder), ("corral/api.ErrValue", Rows.laid_corral_api_ErrValue)] [.sentinel, .sentinel, .sentinel, .sentinel, .sentinel, .sentinel, .sentinel, .sentinel, .sentinel, .sentinel, .sentinel] true :=
  Program.laidByTextLater.sub seatTie1 ["corral/api.ErrMany", "corral/api.ErrKind", "corral/api.ErrPlace", "corral/api.ErrShape", "corral/api.ErrWord", "corral/api.ErrRange", "corral/api.ErrFull", "corral/api.ErrNone", "corral/api.ErrTrace", "corral/api.ErrOrder", "corral/api.ErrValue"] (by kernel_rfl) (by kernel_rfl)
theorem wmoInTurn_row_tie : Rows.wmoInTurnRow.laidByTextAt .later Tryd.pinned [.sentinel, .sentinel, .sentinel, .sentinel, .sentinel, .sentinel, .sentinel, .sentinel, .sentinel, .sentinel, .sentinel] true :=
  OpenClaim.laidByTextAt_later rfl rfl tie noOwnUnsafe
theorem wmoForwards_row_tie : Rows.wmoForwardsRow.laidByTextAt .later Tryd.pinned [.sentinel, .sentinel, .sentinel, .sentinel, .sentinel, .sentinel, .sentinel, .sentinel, .sentinel, .sentinel, .sentinel] true :=
  OpenClaim.laidByTextAt_later rfl rfl tie noOwnUnsafe
theorem wmoHands_row_tie : Rows.wmoHandsRow.laidByTextAt .later Tryd.pinned [.sentinel, .sentinel, .sentinel, .sentinel, .sentinel, .sentinel, .sentinel, .sentinel, .sentinel, .sentinel, .sentinel] true :=
  OpenClaim.laidByTextAt_later rfl rfl tie noOwnUnsafe
theorem wmoAlone_row_tie : Rows.wmoAloneRow.laidByTextAt .later Tryd.pinned [.sentinel, .sentinel, .sentinel, .sentinel, .sentinel, .sentinel, .sentinel, .sentinel, .sentinel, .sentinel, .sentinel] true :=
  OpenClaim.laidByTextAt_later rfl rfl tie noOwnUnsafe
theorem wmoMixed_row_tie : Rows.wmoMixedRow.laidByTextAt .later Tryd.pinned [.sentinel, .sentinel, .sentinel, .sentinel, .sentinel, .sentinel, .sentinel, .sentinel, .sentinel, .sentinel, .sentinel] true :=
  OpenClaim.laidByTextAt_later rfl rfl tie noOwnUnsafe
theorem tie2 : Tryd.prog.laidByTextLater [("corral/api.ErrMany", Rows.laid_corral_api_ErrMany), ("corral/api.ErrShape", Rows.laid_corral_api_ErrShape)] [.sentinel, .sentinel] true :=
  Program.laidByTextLater.sub seatTie1 ["corral/api.ErrMany", "corral/api.ErrShape"] (by kernel_rfl) (by kernel_rfl)
theorem litmusOne_row_tie : Rows.litmusOneRow.laidByTextAt .later Tryd.pinned [.sentinel, .sentinel] true :=
  OpenClaim.laidByTextAt_later rfl rfl tie2 noOwnUnsafe
theorem litmusFences_row_tie : Rows.litmusFencesRow.laidByTextAt .later Tryd.pinned [.sentinel, .sentinel] true :=
  OpenClaim.laidByTextAt_later rfl rfl tie2 noOwnUnsafe
theorem litmusSwaps_row_tie : Rows.litmusSwapsRow.laidByTextAt .later Tryd.pinned [.sentinel, .sentinel] true :=
  OpenClaim.laidByTextAt_later rfl rfl tie2 noOwnUnsafe
theorem litmusHands_row_tie : Rows.litmusHandsRow.laidByTextAt .later Tryd.pinned [.sentinel, .sentinel] true :=
  OpenClaim.laidByTextAt_later rfl rfl tie2 noOwnUnsafe
theorem wmoInTurnUpto_row_tie : Rows.wmoInTurnUptoRow.laidByTextAt .later Tryd.pinned [.sentinel, .sentinel, .sentinel, .sentinel, .sentinel, .sentinel, .sentinel, .sentinel, .sentinel, .sentinel, .sentinel] true :=
  OpenClaim.laidByTextAt_later rfl rfl tie noOwnUnsafe
theorem wmoForwardsUpto_row_tie : Rows.wmoForwardsUptoRow.laidByTextAt .later Tryd.pinned [.sentinel, .sentinel, .sentinel, .sentinel, .sentinel, .sentinel, .sentinel, .sentinel, .sentinel, .sentinel, .sentinel] true :=
  OpenClaim.laidByTextAt_later rfl rfl tie noOwnUnsafe
theorem wmoHandsUpto_row_tie : Rows.wmoHandsUptoRow.laidByTextAt .later Tryd.pinned [.sentinel, .sentinel, .sentinel, .sentinel, .sentinel, .sentinel, .sentinel, .sentinel, .sentinel, .sentinel, .sentinel] true :=
  OpenClaim.laidByTextAt_later rfl rfl tie noOwnUnsafe
theorem wmoAloneUpto_row_tie : Rows.wmoAloneUptoRow.laidByTextAt .later Tryd.pinned [.sentinel, .sentinel, .sentinel, .sentinel, .sentinel, .sentinel, .sentinel, .sentinel, .sentinel, .sentinel, .sentinel] true :=
  OpenClaim.laidByTextAt_later rfl rfl tie noOwnUnsafe
theorem wmoMixedUpto_row_tie : Rows.wmoMixedUptoRow.laidByTextAt .later Tryd.pinned [.sentinel, .sentinel, .sentinel, .sentinel, .sentinel, .sentinel, .sentinel, .sentinel, .sentinel, .sentinel, .sentinel] true :=
  OpenClaim.laidByTextAt_later rfl rfl tie noOwnUnsafe
theorem litmusOneUpto_row_tie : Rows.litmusOneUptoRow.laidByTextAt .later Tryd.pinned [.sentinel, .sentinel] true :=
  OpenClaim.laidByTextAt_later rfl rfl tie2 noOwnUnsafe
theorem litmusFencesUpto_row_tie : Rows.litmusFencesUptoRow.laidByTextAt .later Tryd.pinned [.sentinel, .sentinel] true :=
  OpenClaim.laidByTextAt_later rfl rfl tie2 noOwnUnsafe
theorem litmusSwapsUpto_row_tie : Rows.litmusSwapsUptoRow.laidByTextAt .later Tryd.pinned [.sentinel, .sentinel] true :=
  OpenClaim.laidByTextAt_later rfl rfl tie2 noOwnUnsafe
theorem litmusHandsUpto_row_tie : Rows.litmusHandsUptoRow.laidByTextAt .later Tryd.pinned [.sentinel, .sentinel] true :=
  OpenClaim.laidByTextAt_later rfl rfl tie2 noOwnUnsafe
end Go.Proofs.YtkfkoldaeplckaaDoor
