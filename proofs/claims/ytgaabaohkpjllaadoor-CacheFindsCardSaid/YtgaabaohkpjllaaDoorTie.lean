/-
  DERIVED. GIVEN WITH THE SEED: THE PROGRAM's TIES (one call each: nine closed facts by the kernel) AND EACH ROW's TIE, after the 31st guide's Derived/Test/Toyas{Tie, Card}.lean. No idea stands in it: it is a product of the set-up. Laid BY PROGRAM, IN A SANDBOX (cutbox-door.mjs). By AI agents, Wed Nov 11 2026. No macro, syntax, notation, axiom, sorry.
-/
import Derived.Test.YtgaabaohkpjllaaDoorRows
import Derived.LaidByTextLater
import Derived.SevenTiedAt
import Derived.LaidSub
import Derived.LaidOnce
namespace Go.Proofs.YtgaabaohkpjllaaDoor
open Go
set_option maxRecDepth 100000
theorem seatTie1 : Tryd.prog.laidByTextLater [("turnkey/api.ErrEnd", Rows.laid_turnkey_api_ErrEnd), ("turnkey/api.ErrShape", Rows.laid_turnkey_api_ErrShape), ("turnkey/api.ErrRange", Rows.laid_turnkey_api_ErrRange), ("turnkey/api.ErrMany", Rows.laid_turnkey_api_ErrMany), ("turnkey/api.ErrNone", Rows.laid_turnkey_api_ErrNone), ("turnkey/api.ErrFull", Rows.laid_turnkey_api_ErrFull), ("turnkey/api.ErrLimit", Rows.laid_turnkey_api_ErrLimit), ("turnkey/api.ErrOwn", Rows.laid_turnkey_api_ErrOwn), ("turnkey/api.ErrState", Rows.laid_turnkey_api_ErrState), ("turnkey/api.ErrRight", Rows.laid_turnkey_api_ErrRight), ("turnkey/api.ErrWord", Rows.laid_turnkey_api_ErrWord), ("turnkey/api.ErrNumber", Rows.laid_turnkey_api_ErrNumber)] [.sentinel, .sentinel, .sentinel, .sentinel, .sentinel, .sentinel, .sentinel, .sentinel, .sentinel, .sentinel, .sentinel, .sentinel] true :=
  Program.laidByTextLater_by_one 237 8 2 (by kernel_rfl) (by kernel_rfl) (by kernel_rfl) (by kernel_rfl) (by kernel_rfl) (by kernel_rfl) (fun _ _ => by kernel_rfl)
theorem noOwnUnsafe : Tryd.pinned.checked.prog.headLifts.contains "ownunsafe" = false := by kernel_rfl
theorem tie : Tryd.prog.laidByTextLater [("turnkey/api.ErrShape", Rows.laid_turnkey_api_ErrShape), ("turnkey/api.ErrRange", Rows.laid_turnkey_api_ErrRange), ("turnkey/api.ErrMany", Rows.laid_turnkey_api_ErrMany), ("turnkey/api.ErrNone", Rows.laid_turnkey_api_ErrNone), ("turnkey/api.ErrFull", Rows.laid_turnkey_api_ErrFull)] [.sentinel, .sentinel, .sentinel, .sentinel, .sentinel] true :=
  Program.laidByTextLater.sub seatTie1 ["turnkey/api.ErrShape", "turnkey/api.ErrRange", "turnkey/api.ErrMany", "turnkey/api.ErrNone", "turnkey/api.ErrFull"] (by kernel_rfl) (by kernel_rfl)
theorem pathRights_row_tie : Rows.pathRightsRow.laidByTextAt .later Tryd.pinned [.sentinel, .sentinel, .sentinel, .sentinel, .sentinel] true :=
  OpenClaim.laidByTextAt_later rfl rfl tie noOwnUnsafe
theorem pathLoops_row_tie : Rows.pathLoopsRow.laidByTextAt .later Tryd.pinned [.sentinel, .sentinel, .sentinel, .sentinel, .sentinel] true :=
  OpenClaim.laidByTextAt_later rfl rfl tie noOwnUnsafe
theorem pathFaults_row_tie : Rows.pathFaultsRow.laidByTextAt .later Tryd.pinned [.sentinel, .sentinel, .sentinel, .sentinel, .sentinel] true :=
  OpenClaim.laidByTextAt_later rfl rfl tie noOwnUnsafe
theorem pathFills_row_tie : Rows.pathFillsRow.laidByTextAt .later Tryd.pinned [.sentinel, .sentinel, .sentinel, .sentinel, .sentinel] true :=
  OpenClaim.laidByTextAt_later rfl rfl tie noOwnUnsafe
theorem pathLow_row_tie : Rows.pathLowRow.laidByTextAt .later Tryd.pinned [.sentinel, .sentinel, .sentinel, .sentinel, .sentinel] true :=
  OpenClaim.laidByTextAt_later rfl rfl tie noOwnUnsafe
theorem cacheRoots_row_tie : Rows.cacheRootsRow.laidByTextAt .later Tryd.pinned [.sentinel, .sentinel, .sentinel, .sentinel, .sentinel] true :=
  OpenClaim.laidByTextAt_later rfl rfl tie noOwnUnsafe
theorem cacheGone_row_tie : Rows.cacheGoneRow.laidByTextAt .later Tryd.pinned [.sentinel, .sentinel, .sentinel, .sentinel, .sentinel] true :=
  OpenClaim.laidByTextAt_later rfl rfl tie noOwnUnsafe
theorem cacheFinds_row_tie : Rows.cacheFindsRow.laidByTextAt .later Tryd.pinned [.sentinel, .sentinel, .sentinel, .sentinel, .sentinel] true :=
  OpenClaim.laidByTextAt_later rfl rfl tie noOwnUnsafe
theorem cacheHits_row_tie : Rows.cacheHitsRow.laidByTextAt .later Tryd.pinned [.sentinel, .sentinel, .sentinel, .sentinel, .sentinel] true :=
  OpenClaim.laidByTextAt_later rfl rfl tie noOwnUnsafe
theorem tie2 : Tryd.prog.laidByTextLater [("turnkey/api.ErrEnd", Rows.laid_turnkey_api_ErrEnd), ("turnkey/api.ErrShape", Rows.laid_turnkey_api_ErrShape), ("turnkey/api.ErrRange", Rows.laid_turnkey_api_ErrRange), ("turnkey/api.ErrMany", Rows.laid_turnkey_api_ErrMany), ("turnkey/api.ErrNone", Rows.laid_turnkey_api_ErrNone), ("turnkey/api.ErrFull", Rows.laid_turnkey_api_ErrFull), ("turnkey/api.ErrLimit", Rows.laid_turnkey_api_ErrLimit), ("turnkey/api.ErrOwn", Rows.laid_turnkey_api_ErrOwn), ("turnkey/api.ErrState", Rows.laid_turnkey_api_ErrState), ("turnkey/api.ErrRight", Rows.laid_turnkey_api_ErrRight), ("turnkey/api.ErrWord", Rows.laid_turnkey_api_ErrWord), ("turnkey/api.ErrNumber", Rows.laid_turnkey_api_ErrNumber)] [.sentinel, .sentinel, .sentinel, .sentinel, .sentinel, .sentinel, .sentinel, .sentinel, .sentinel, .sentinel, .sentinel, .sentinel] true :=
  Program.laidByTextLater.sub seatTie1 ["turnkey/api.ErrEnd", "turnkey/api.ErrShape", "turnkey/api.ErrRange", "turnkey/api.ErrMany", "turnkey/api.ErrNone", "turnkey/api.ErrFull", "turnkey/api.ErrLimit", "turnkey/api.ErrOwn", "turnkey/api.ErrState", "turnkey/api.ErrRight", "turnkey/api.ErrWord", "turnkey/api.ErrNumber"] (by kernel_rfl) (by kernel_rfl)
theorem cacheEldest_row_tie : Rows.cacheEldestRow.laidByTextAt .later Tryd.pinned [.sentinel, .sentinel, .sentinel, .sentinel, .sentinel, .sentinel, .sentinel, .sentinel, .sentinel, .sentinel, .sentinel, .sentinel] true :=
  OpenClaim.laidByTextAt_later rfl rfl tie2 noOwnUnsafe
theorem pathRightsUpto_row_tie : Rows.pathRightsUptoRow.laidByTextAt .later Tryd.pinned [.sentinel, .sentinel, .sentinel, .sentinel, .sentinel] true :=
  OpenClaim.laidByTextAt_later rfl rfl tie noOwnUnsafe
theorem pathLoopsUpto_row_tie : Rows.pathLoopsUptoRow.laidByTextAt .later Tryd.pinned [.sentinel, .sentinel, .sentinel, .sentinel, .sentinel] true :=
  OpenClaim.laidByTextAt_later rfl rfl tie noOwnUnsafe
theorem pathFaultsUpto_row_tie : Rows.pathFaultsUptoRow.laidByTextAt .later Tryd.pinned [.sentinel, .sentinel, .sentinel, .sentinel, .sentinel] true :=
  OpenClaim.laidByTextAt_later rfl rfl tie noOwnUnsafe
theorem pathFillsUpto_row_tie : Rows.pathFillsUptoRow.laidByTextAt .later Tryd.pinned [.sentinel, .sentinel, .sentinel, .sentinel, .sentinel] true :=
  OpenClaim.laidByTextAt_later rfl rfl tie noOwnUnsafe
theorem pathLowUpto_row_tie : Rows.pathLowUptoRow.laidByTextAt .later Tryd.pinned [.sentinel, .sentinel, .sentinel, .sentinel, .sentinel] true :=
  OpenClaim.laidByTextAt_later rfl rfl tie noOwnUnsafe
theorem cacheRootsUpto_row_tie : Rows.cacheRootsUptoRow.laidByTextAt .later Tryd.pinned [.sentinel, .sentinel, .sentinel, .sentinel, .sentinel] true :=
  OpenClaim.laidByTextAt_later rfl rfl tie noOwnUnsafe
theorem cacheEldestUpto_row_tie : Rows.cacheEldestUptoRow.laidByTextAt .later Tryd.pinned [.sentinel, .sentinel, .sentinel, .sentinel, .sentinel, .sentinel, .sentinel, .sentinel, .sentinel, .sentinel, .sentinel, .sentinel] true :=
  OpenClaim.laidByTextAt_later rfl rfl tie2 noOwnUnsafe
theorem cacheGoneUpto_row_tie : Rows.cacheGoneUptoRow.laidByTextAt .later Tryd.pinned [.sentinel, .sentinel, .sentinel, .sentinel, .sentinel] true :=
  OpenClaim.laidByTextAt_later rfl rfl tie noOwnUnsafe
theorem cacheFindsUpto_row_tie : Rows.cacheFindsUptoRow.laidByTextAt .later Tryd.pinned [.sentinel, .sentinel, .sentinel, .sentinel, .sentinel] true :=
  OpenClaim.laidByTextAt_later rfl rfl tie noOwnUnsafe
theorem cacheHitsUpto_row_tie : Rows.cacheHitsUptoRow.laidByTextAt .later Tryd.pinned [.sentinel, .sentinel, .sentinel, .sentinel, .sentinel] true :=
  OpenClaim.laidByTextAt_later rfl rfl tie noOwnUnsafe
end Go.Proofs.YtgaabaohkpjllaaDoor
