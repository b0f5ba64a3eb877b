/-
  DERIVED. GIVEN WITH THE SEED: THE PROGRAM's TIES (one call each: nine closed facts by the kernel) AND EACH ROW's TIE, after the 31st guide's Derived/Test/Toyas{Tie, Card}.lean. No idea stands in it: it is a product of the set-up. Laid BY PROGRAM, IN A SANDBOX (cutbox-door.mjs). By AI agents, Wed Nov 11 2026. No macro, syntax, notation, axiom, sorry.
-/
import Derived.Test.YtojcoegekkcojaaDoorRows
import Derived.LaidByTextLater
import Derived.SevenTiedAt
import Derived.LaidSub
import Derived.LaidOnce
namespace Go.Proofs.YtojcoegekkcojaaDoor
open Go
set_option maxRecDepth 100000
theorem seatTie1 : Tryd.prog.laidByTextLater [("tidewater/api.ErrRange", Rows.laid_tidewater_api_ErrRange), ("tidewater/api.ErrShort", Rows.laid_tidewater_api_ErrShort), ("tidewater/api.ErrLong", Rows.laid_tidewater_api_ErrLong), ("tidewater/api.ErrForm", Rows.laid_tidewater_api_ErrForm), ("tidewater/api.ErrSum", Rows.laid_tidewater_api_ErrSum), ("tidewater/api.ErrRune", Rows.laid_tidewater_api_ErrRune), ("tidewater/api.ErrName", Rows.laid_tidewater_api_ErrName), ("tidewater/api.ErrSealed", Rows.laid_tidewater_api_ErrSealed), ("tidewater/api.ErrWritten", Rows.laid_tidewater_api_ErrWritten), ("tidewater/api.ErrUnwritten", Rows.laid_tidewater_api_ErrUnwritten), ("tidewater/api.ErrTrimmed", Rows.laid_tidewater_api_ErrTrimmed), ("tidewater/api.ErrDown", Rows.laid_tidewater_api_ErrDown), ("tidewater/api.ErrFull", Rows.laid_tidewater_api_ErrFull), ("tidewater/api.ErrEpoch", Rows.laid_tidewater_api_ErrEpoch), ("tidewater/api.ErrMoved", Rows.laid_tidewater_api_ErrMoved), ("tidewater/api.ErrNone", Rows.laid_tidewater_api_ErrNone), ("tidewater/api.ErrState", Rows.laid_tidewater_api_ErrState), ("tidewater/api.ErrClash", Rows.laid_tidewater_api_ErrClash), ("tidewater/api.ErrStale", Rows.laid_tidewater_api_ErrStale)] [.sentinel, .sentinel, .sentinel, .sentinel, .sentinel, .sentinel, .sentinel, .sentinel, .sentinel, .sentinel, .sentinel, .sentinel, .sentinel, .sentinel, .sentinel, .sentinel, .sentinel, .sentinel, .sentinel] true :=
  Program.laidByTextLater_by_one 370 8 2 (by kernel_rfl) (by kernel_rfl) (by kernel_rfl) (by kernel_rfl) (by kernel_rfl) (by kernel_rfl) (fun _ _ => by kernel_rfl)
theorem noOwnUnsafe : Tryd.pinned.checked.prog.headLifts.contains "ownunsafe" = false := by kernel_rfl
theorem tie : Tryd.prog.laidByTextLater [("tidewater/api.ErrLong", Rows.laid_tidewater_api_ErrLong), ("tidewater/api.ErrForm", Rows.laid_tidewater_api_ErrForm)] [.sentinel, .sentinel] true :=
  Program.laidByTextLater.sub seatTie1 ["tidewater/api.ErrLong", "tidewater/api.ErrForm"] (by kernel_rfl) (by kernel_rfl)
theorem entrySame_row_tie : Rows.entrySameRow.laidByTextAt .later Tryd.pinned [.sentinel, .sentinel] true :=
  OpenClaim.laidByTextAt_later rfl rfl tie noOwnUnsafe
theorem entryStreams_row_tie : Rows.entryStreamsRow.laidByTextAt .later Tryd.pinned [.sentinel, .sentinel] true :=
  OpenClaim.laidByTextAt_later rfl rfl tie noOwnUnsafe
theorem tie2 : Tryd.prog.laidByTextLater [("tidewater/api.ErrRange", Rows.laid_tidewater_api_ErrRange), ("tidewater/api.ErrShort", Rows.laid_tidewater_api_ErrShort), ("tidewater/api.ErrLong", Rows.laid_tidewater_api_ErrLong), ("tidewater/api.ErrForm", Rows.laid_tidewater_api_ErrForm), ("tidewater/api.ErrSum", Rows.laid_tidewater_api_ErrSum), ("tidewater/api.ErrRune", Rows.laid_tidewater_api_ErrRune), ("tidewater/api.ErrName", Rows.laid_tidewater_api_ErrName), ("tidewater/api.ErrSealed", Rows.laid_tidewater_api_ErrSealed), ("tidewater/api.ErrWritten", Rows.laid_tidewater_api_ErrWritten), ("tidewater/api.ErrUnwritten", Rows.laid_tidewater_api_ErrUnwritten), ("tidewater/api.ErrTrimmed", Rows.laid_tidewater_api_ErrTrimmed), ("tidewater/api.ErrDown", Rows.laid_tidewater_api_ErrDown), ("tidewater/api.ErrFull", Rows.laid_tidewater_api_ErrFull), ("tidewater/api.ErrEpoch", Rows.laid_tidewater_api_ErrEpoch), ("tidewater/api.ErrMoved", Rows.laid_tidewater_api_ErrMoved), ("tidewater/api.ErrNone", Rows.laid_tidewater_api_ErrNone), ("tidewater/api.ErrState", Rows.laid_tidewater_api_ErrState), ("tidewater/api.ErrClash", Rows.laid_tidewater_api_ErrClash), ("tidewater/api.ErrStale", Rows.laid_tidewater_api_ErrStale)] [.sentinel, .sentinel, .sentinel, .sentinel, .sentinel, .sentinel, .sentinel, .sentinel, .sentinel, .sentinel, .sentinel, .sentinel, .sentinel, .sentinel, .sentinel, .sentinel, .sentinel, .sentinel, .sentinel] true :=
  Program.laidByTextLater.sub seatTie1 ["tidewater/api.ErrRange", "tidewater/api.ErrShort", "tidewater/api.ErrLong", "tidewater/api.ErrForm", "tidewater/api.ErrSum", "tidewater/api.ErrRune", "tidewater/api.ErrName", "tidewater/api.ErrSealed", "tidewater/api.ErrWritten", "tidewater/api.ErrUnwritten", "tidewater/api.ErrTrimmed", "tidewater/api.ErrDown", "tidewater/api.ErrFull", "tidewater/api.ErrEpoch", "tidewater/api.ErrMoved", "tidewater/api.ErrNone", "tidewater/api.ErrState", "tidewater/api.ErrClash", "tidewater/api.ErrStale"] (by kernel_rfl) (by kernel_rfl)
theorem entryWrites_row_tie : Rows.entryWritesRow.laidByTextAt .later Tryd.pinned [.sentinel, .sentinel, .sentinel, .sentinel, .sentinel, .sentinel, .sentinel, .sentinel, .sentinel, .sentinel, .sentinel, .sentinel, .sentinel, .sentinel, .sentinel, .sentinel, .sentinel, .sentinel, .sentinel] true :=
  OpenClaim.laidByTextAt_later rfl rfl tie2 noOwnUnsafe
theorem entrySameUpto_row_tie : Rows.entrySameUptoRow.laidByTextAt .later Tryd.pinned [.sentinel, .sentinel] true :=
  OpenClaim.laidByTextAt_later rfl rfl tie noOwnUnsafe
theorem entryStreamsUpto_row_tie : Rows.entryStreamsUptoRow.laidByTextAt .later Tryd.pinned [.sentinel, .sentinel] true :=
  OpenClaim.laidByTextAt_later rfl rfl tie noOwnUnsafe
theorem entryWritesUpto_row_tie : Rows.entryWritesUptoRow.laidByTextAt .later Tryd.pinned [.sentinel, .sentinel, .sentinel, .sentinel, .sentinel, .sentinel, .sentinel, .sentinel, .sentinel, .sentinel, .sentinel, .sentinel, .sentinel, .sentinel, .sentinel, .sentinel, .sentinel, .sentinel, .sentinel] true :=
  OpenClaim.laidByTextAt_later rfl rfl tie2 noOwnUnsafe
end Go.Proofs.YtojcoegekkcojaaDoor
