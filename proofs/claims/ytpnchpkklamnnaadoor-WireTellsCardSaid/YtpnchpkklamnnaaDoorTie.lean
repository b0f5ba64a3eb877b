/-
  DERIVED. GIVEN WITH THE SEED: THE PROGRAM's TIES (one call each: nine closed facts by the kernel) AND EACH ROW's TIE, after the 31st guide's Derived/Test/Toyas{Tie, Card}.lean. No idea stands in it: it is a product of the set-up. Laid BY PROGRAM, IN A SANDBOX (cutbox-door.mjs). By AI agents, Wed Nov 11 2026. No macro, syntax, notation, axiom, sorry.
-/
import Derived.Test.YtpnchpkklamnnaaDoorRows
import Derived.LaidByTextLater
import Derived.SevenTiedAt
import Derived.LaidSub
import Derived.LaidOnce
namespace Go.Proofs.YtpnchpkklamnnaaDoor
open Go
set_option maxRecDepth 100000
theorem seatTie1 : Tryd.prog.laidByTextLater [("tidewater/api.ErrRange", Rows.laid_tidewater_api_ErrRange), ("tidewater/api.ErrShort", Rows.laid_tidewater_api_ErrShort), ("tidewater/api.ErrLong", Rows.laid_tidewater_api_ErrLong), ("tidewater/api.ErrForm", Rows.laid_tidewater_api_ErrForm), ("tidewater/api.ErrSum", Rows.laid_tidewater_api_ErrSum), ("tidewater/api.ErrRune", Rows.laid_tidewater_api_ErrRune), ("tidewater/api.ErrName", Rows.laid_tidewater_api_ErrName), ("tidewater/api.ErrSealed", Rows.laid_tidewater_api_ErrSealed), ("tidewater/api.ErrWritten", Rows.laid_tidewater_api_ErrWritten), ("tidewater/api.ErrUnwritten", Rows.laid_tidewater_api_ErrUnwritten), ("tidewater/api.ErrTrimmed", Rows.laid_tidewater_api_ErrTrimmed), ("tidewater/api.ErrDown", Rows.laid_tidewater_api_ErrDown), ("tidewater/api.ErrFull", Rows.laid_tidewater_api_ErrFull), ("tidewater/api.ErrEpoch", Rows.laid_tidewater_api_ErrEpoch), ("tidewater/api.ErrMoved", Rows.laid_tidewater_api_ErrMoved), ("tidewater/api.ErrNone", Rows.laid_tidewater_api_ErrNone), ("tidewater/api.ErrState", Rows.laid_tidewater_api_ErrState), ("tidewater/api.ErrClash", Rows.laid_tidewater_api_ErrClash), ("tidewater/api.ErrStale", Rows.laid_tidewater_api_ErrStale)] [.sentinel, .sentinel, .sentinel, .sentinel, .sentinel, .sentinel, .sentinel, .sentinel, .sentinel, .sentinel, .sentinel, .sentinel, .sentinel, .sentinel, .sentinel, .sentinel, .sentinel, .sentinel, .sentinel] true :=
  Program.laidByTextLater_by_one 370 8 2 (by kernel_rfl) (by kernel_rfl) (by kernel_rfl) (by kernel_rfl) (by kernel_rfl) (by kernel_rfl) (fun _ _ => by kernel_rfl)
theorem noOwnUnsafe : Tryd.pinned.checked.prog.headLifts.contains "ownunsafe" = false := by kernel_rfl
theorem tie : Tryd.prog.laidByTextLater [("tidewater/api.ErrLong", Rows.laid_tidewater_api_ErrLong)] [.sentinel] true :=
  Program.laidByTextLater.sub seatTie1 ["tidewater/api.ErrLong"] (by kernel_rfl) (by kernel_rfl)
theorem sumsSize_row_tie : Rows.sumsSizeRow.laidByTextAt .later Tryd.pinned [.sentinel] true :=
  OpenClaim.laidByTextAt_later rfl rfl tie noOwnUnsafe
theorem tie2 : Tryd.prog.laidByTextLater [("tidewater/api.ErrRange", Rows.laid_tidewater_api_ErrRange), ("tidewater/api.ErrShort", Rows.laid_tidewater_api_ErrShort), ("tidewater/api.ErrLong", Rows.laid_tidewater_api_ErrLong), ("tidewater/api.ErrForm", Rows.laid_tidewater_api_ErrForm), ("tidewater/api.ErrSum", Rows.laid_tidewater_api_ErrSum), ("tidewater/api.ErrRune", Rows.laid_tidewater_api_ErrRune), ("tidewater/api.ErrName", Rows.laid_tidewater_api_ErrName), ("tidewater/api.ErrSealed", Rows.laid_tidewater_api_ErrSealed), ("tidewater/api.ErrWritten", Rows.laid_tidewater_api_ErrWritten), ("tidewater/api.ErrUnwritten", Rows.laid_tidewater_api_ErrUnwritten), ("tidewater/api.ErrTrimmed", Rows.laid_tidewater_api_ErrTrimmed), ("tidewater/api.ErrDown", Rows.laid_tidewater_api_ErrDown), ("tidewater/api.ErrFull", Rows.laid_tidewater_api_ErrFull), ("tidewater/api.ErrEpoch", Rows.laid_tidewater_api_ErrEpoch), ("tidewater/api.ErrMoved", Rows.laid_tidewater_api_ErrMoved), ("tidewater/api.ErrNone", Rows.laid_tidewater_api_ErrNone), ("tidewater/api.ErrState", Rows.laid_tidewater_api_ErrState), ("tidewater/api.ErrClash", Rows.laid_tidewater_api_ErrClash), ("tidewater/api.ErrStale", Rows.laid_tidewater_api_ErrStale)] [.sentinel, .sentinel, .sentinel, .sentinel, .sentinel, .sentinel, .sentinel, .sentinel, .sentinel, .sentinel, .sentinel, .sentinel, .sentinel, .sentinel, .sentinel, .sentinel, .sentinel, .sentinel, .sentinel] true :=
  Program.laidByTextLater.sub seatTie1 ["tidewater/api.ErrRange", "tidewater/api.ErrShort", "tidewater/api.ErrLong", "tidewater/api.ErrForm", "tidewater/api.ErrSum", "tidewater/api.ErrRune", "tidewater/api.ErrName", "tidewater/api.ErrSealed", "tidewater/api.ErrWritten", "tidewater/api.ErrUnwritten", "tidewater/api.ErrTrimmed", "tidewater/api.ErrDown", "tidewater/api.ErrFull", "tidewater/api.ErrEpoch", "tidewater/api.ErrMoved", "tidewater/api.ErrNone", "tidewater/api.ErrState", "tidewater/api.ErrClash", "tidewater/api.ErrStale"] (by kernel_rfl) (by kernel_rfl)
theorem sumsOpens_row_tie : Rows.sumsOpensRow.laidByTextAt .later Tryd.pinned [.sentinel, .sentinel, .sentinel, .sentinel, .sentinel, .sentinel, .sentinel, .sentinel, .sentinel, .sentinel, .sentinel, .sentinel, .sentinel, .sentinel, .sentinel, .sentinel, .sentinel, .sentinel, .sentinel] true :=
  OpenClaim.laidByTextAt_later rfl rfl tie2 noOwnUnsafe
theorem sumsFrames_row_tie : Rows.sumsFramesRow.laidByTextAt .later Tryd.pinned [.sentinel, .sentinel, .sentinel, .sentinel, .sentinel, .sentinel, .sentinel, .sentinel, .sentinel, .sentinel, .sentinel, .sentinel, .sentinel, .sentinel, .sentinel, .sentinel, .sentinel, .sentinel, .sentinel] true :=
  OpenClaim.laidByTextAt_later rfl rfl tie2 noOwnUnsafe
theorem sumsBurst_row_tie : Rows.sumsBurstRow.laidByTextAt .later Tryd.pinned [.sentinel, .sentinel, .sentinel, .sentinel, .sentinel, .sentinel, .sentinel, .sentinel, .sentinel, .sentinel, .sentinel, .sentinel, .sentinel, .sentinel, .sentinel, .sentinel, .sentinel, .sentinel, .sentinel] true :=
  OpenClaim.laidByTextAt_later rfl rfl tie2 noOwnUnsafe
theorem wireErrors_row_tie : Rows.wireErrorsRow.laidByTextAt .later Tryd.pinned [.sentinel, .sentinel, .sentinel, .sentinel, .sentinel, .sentinel, .sentinel, .sentinel, .sentinel, .sentinel, .sentinel, .sentinel, .sentinel, .sentinel, .sentinel, .sentinel, .sentinel, .sentinel, .sentinel] true :=
  OpenClaim.laidByTextAt_later rfl rfl tie2 noOwnUnsafe
theorem wireAsks_row_tie : Rows.wireAsksRow.laidByTextAt .later Tryd.pinned [.sentinel, .sentinel, .sentinel, .sentinel, .sentinel, .sentinel, .sentinel, .sentinel, .sentinel, .sentinel, .sentinel, .sentinel, .sentinel, .sentinel, .sentinel, .sentinel, .sentinel, .sentinel, .sentinel] true :=
  OpenClaim.laidByTextAt_later rfl rfl tie2 noOwnUnsafe
theorem wireBurst_row_tie : Rows.wireBurstRow.laidByTextAt .later Tryd.pinned [.sentinel, .sentinel, .sentinel, .sentinel, .sentinel, .sentinel, .sentinel, .sentinel, .sentinel, .sentinel, .sentinel, .sentinel, .sentinel, .sentinel, .sentinel, .sentinel, .sentinel, .sentinel, .sentinel] true :=
  OpenClaim.laidByTextAt_later rfl rfl tie2 noOwnUnsafe
theorem wireTells_row_tie : Rows.wireTellsRow.laidByTextAt .later Tryd.pinned [.sentinel, .sentinel, .sentinel, .sentinel, .sentinel, .sentinel, .sentinel, .sentinel, .sentinel, .sentinel, .sentinel, .sentinel, .sentinel, .sentinel, .sentinel, .sentinel, .sentinel, .sentinel, .sentinel] true :=
  OpenClaim.laidByTextAt_later rfl rfl tie2 noOwnUnsafe
theorem packLeast_row_tie : Rows.packLeastRow.laidByTextAt .later Tryd.pinned [.sentinel, .sentinel, .sentinel, .sentinel, .sentinel, .sentinel, .sentinel, .sentinel, .sentinel, .sentinel, .sentinel, .sentinel, .sentinel, .sentinel, .sentinel, .sentinel, .sentinel, .sentinel, .sentinel] true :=
  OpenClaim.laidByTextAt_later rfl rfl tie2 noOwnUnsafe
theorem packStops_row_tie : Rows.packStopsRow.laidByTextAt .later Tryd.pinned [.sentinel, .sentinel, .sentinel, .sentinel, .sentinel, .sentinel, .sentinel, .sentinel, .sentinel, .sentinel, .sentinel, .sentinel, .sentinel, .sentinel, .sentinel, .sentinel, .sentinel, .sentinel, .sentinel] true :=
  OpenClaim.laidByTextAt_later rfl rfl tie2 noOwnUnsafe
theorem packWrites_row_tie : Rows.packWritesRow.laidByTextAt .later Tryd.pinned [.sentinel, .sentinel, .sentinel, .sentinel, .sentinel, .sentinel, .sentinel, .sentinel, .sentinel, .sentinel, .sentinel, .sentinel, .sentinel, .sentinel, .sentinel, .sentinel, .sentinel, .sentinel, .sentinel] true :=
  OpenClaim.laidByTextAt_later rfl rfl tie2 noOwnUnsafe
theorem checkParts_row_tie : Rows.checkPartsRow.laidByTextAt .later Tryd.pinned [.sentinel, .sentinel, .sentinel, .sentinel, .sentinel, .sentinel, .sentinel, .sentinel, .sentinel, .sentinel, .sentinel, .sentinel, .sentinel, .sentinel, .sentinel, .sentinel, .sentinel, .sentinel, .sentinel] true :=
  OpenClaim.laidByTextAt_later rfl rfl tie2 noOwnUnsafe
theorem sumsSizeUpto_row_tie : Rows.sumsSizeUptoRow.laidByTextAt .later Tryd.pinned [.sentinel] true :=
  OpenClaim.laidByTextAt_later rfl rfl tie noOwnUnsafe
theorem sumsOpensUpto_row_tie : Rows.sumsOpensUptoRow.laidByTextAt .later Tryd.pinned [.sentinel, .sentinel, .sentinel, .sentinel, .sentinel, .sentinel, .sentinel, .sentinel, .sentinel, .sentinel, .sentinel, .sentinel, .sentinel, .sentinel, .sentinel, .sentinel, .sentinel, .sentinel, .sentinel] true :=
  OpenClaim.laidByTextAt_later rfl rfl tie2 noOwnUnsafe
theorem sumsFramesUpto_row_tie : Rows.sumsFramesUptoRow.laidByTextAt .later Tryd.pinned [.sentinel, .sentinel, .sentinel, .sentinel, .sentinel, .sentinel, .sentinel, .sentinel, .sentinel, .sentinel, .sentinel, .sentinel, .sentinel, .sentinel, .sentinel, .sentinel, .sentinel, .sentinel, .sentinel] true :=
  OpenClaim.laidByTextAt_later rfl rfl tie2 noOwnUnsafe
theorem sumsBurstUpto_row_tie : Rows.sumsBurstUptoRow.laidByTextAt .later Tryd.pinned [.sentinel, .sentinel, .sentinel, .sentinel, .sentinel, .sentinel, .sentinel, .sentinel, .sentinel, .sentinel, .sentinel, .sentinel, .sentinel, .sentinel, .sentinel, .sentinel, .sentinel, .sentinel, .sentinel] true :=
  OpenClaim.laidByTextAt_later rfl rfl tie2 noOwnUnsafe
theorem wireErrorsUpto_row_tie : Rows.wireErrorsUptoRow.laidByTextAt .later Tryd.pinned [.sentinel, .sentinel, .sentinel, .sentinel, .sentinel, .sentinel, .sentinel, .sentinel, .sentinel, .sentinel, .sentinel, .sentinel, .sentinel, .sentinel, .sentinel, .sentinel, .sentinel, .sentinel, .sentinel] true :=
  OpenClaim.laidByTextAt_later rfl rfl tie2 noOwnUnsafe
theorem wireAsksUpto_row_tie : Rows.wireAsksUptoRow.laidByTextAt .later Tryd.pinned [.sentinel, .sentinel, .sentinel, .sentinel, .sentinel, .sentinel, .sentinel, .sentinel, .sentinel, .sentinel, .sentinel, .sentinel, .sentinel, .sentinel, .sentinel, .sentinel, .sentinel, .sentinel, .sentinel] true :=
  OpenClaim.laidByTextAt_later rfl rfl tie2 noOwnUnsafe
theorem wireBurstUpto_row_tie : Rows.wireBurstUptoRow.laidByTextAt .later Tryd.pinned [.sentinel, .sentinel, .sentinel, .sentinel, .sentinel, .sentinel, .sentinel, .sentinel, .sentinel, .sentinel, .sentinel, .sentinel, .sentinel, .sentinel, .sentinel, .sentinel, .sentinel, .sentinel, .sentinel] true :=
  OpenClaim.laidByTextAt_later rfl rfl tie2 noOwnUnsafe
theorem wireTellsUpto_row_tie : Rows.wireTellsUptoRow.laidByTextAt .later Tryd.pinned [.sentinel, .sentinel, .sentinel, .sentinel, .sentinel, .sentinel, .sentinel, .sentinel, .sentinel, .sentinel, .sentinel, .sentinel, .sentinel, .sentinel, .sentinel, .sentinel, .sentinel, .sentinel, .sentinel] true :=
  OpenClaim.laidByTextAt_later rfl rfl tie2 noOwnUnsafe
theorem packLeastUpto_row_tie : Rows.packLeastUptoRow.laidByTextAt .later Tryd.pinned [.sentinel, .sentinel, .sentinel, .sentinel, .sentinel, .sentinel, .sentinel, .sentinel, .sentinel, .sentinel, .sentinel, .sentinel, .sentinel, .sentinel, .sentinel, .sentinel, .sentinel, .sentinel, .sentinel] true :=
  OpenClaim.laidByTextAt_later rfl rfl tie2 noOwnUnsafe
theorem packStopsUpto_row_tie : Rows.packStopsUptoRow.laidByTextAt .later Tryd.pinned [.sentinel, .sentinel, .sentinel, .sentinel, .sentinel, .sentinel, .sentinel, .sentinel, .sentinel, .sentinel, .sentinel, .sentinel, .sentinel, .sentinel, .sentinel, .sentinel, .sentinel, .sentinel, .sentinel] true :=
  OpenClaim.laidByTextAt_later rfl rfl tie2 noOwnUnsafe
theorem packWritesUpto_row_tie : Rows.packWritesUptoRow.laidByTextAt .later Tryd.pinned [.sentinel, .sentinel, .sentinel, .sentinel, .sentinel, .sentinel, .sentinel, .sentinel, .sentinel, .sentinel, .sentinel, .sentinel, .sentinel, .sentinel, .sentinel, .sentinel, .sentinel, .sentinel, .sentinel] true :=
  OpenClaim.laidByTextAt_later rfl rfl tie2 noOwnUnsafe
theorem checkPartsUpto_row_tie : Rows.checkPartsUptoRow.laidByTextAt .later Tryd.pinned [.sentinel, .sentinel, .sentinel, .sentinel, .sentinel, .sentinel, .sentinel, .sentinel, .sentinel, .sentinel, .sentinel, .sentinel, .sentinel, .sentinel, .sentinel, .sentinel, .sentinel, .sentinel, .sentinel] true :=
  OpenClaim.laidByTextAt_later rfl rfl tie2 noOwnUnsafe
end Go.Proofs.YtpnchpkklamnnaaDoor
