/-
  DERIVED. GIVEN WITH THE SEED: THE PROGRAM's TIES (one call each: nine closed facts by the kernel) AND EACH ROW's TIE, after the 31st guide's Derived/Test/Toyas{Tie, Card}.lean. No idea stands in it: it is a product of the set-up. Laid BY PROGRAM, IN A SANDBOX (cutbox-door.mjs). By AI agents, Wed Nov 11 2026. No macro, syntax, notation, axiom, sorry.
-/
import Derived.Test.YtplhligfkbgllaaGreatDoorRows
import Derived.LaidByTextLater
import Derived.SevenTiedAt
import Derived.LaidSub
import Derived.LaidOnce
namespace Go.Proofs.YtplhligfkbgllaaGreatDoor
open Go
set_option maxRecDepth 100000
theorem seatTie1 : Tryz.prog.laidByTextLater [("tarn/cube.frames", Rows.laid_tarn_cube_frames), ("tarn/geom.frames", Rows.laid_tarn_geom_frames)] [.wider, .data] true :=
  Program.laidByTextLater_by_one 67 8 55 (by kernel_rfl) (by kernel_rfl) (by kernel_rfl) (by kernel_rfl) (by kernel_rfl) (by kernel_rfl) (fun _ _ => by kernel_rfl)
theorem noOwnUnsafe : Tryz.pinned.checked.prog.headLifts.contains "ownunsafe" = false := by kernel_rfl
theorem tie : Tryz.prog.laidByTextLater [("tarn/cube.frames", Rows.laid_tarn_cube_frames), ("tarn/geom.frames", Rows.laid_tarn_geom_frames)] [.wider, .data] true :=
  Program.laidByTextLater.sub seatTie1 ["tarn/cube.frames", "tarn/geom.frames"] (by kernel_rfl) (by kernel_rfl)
theorem shareAll_row_tie : Rows.shareAllRow.laidByTextAt .later Tryz.pinned [.wider, .data] true :=
  OpenClaim.laidByTextAt_later rfl rfl tie noOwnUnsafe
theorem tracerFlows_row_tie : Rows.tracerFlowsRow.laidByTextAt .later Tryz.pinned [.wider, .data] true :=
  OpenClaim.laidByTextAt_later rfl rfl tie noOwnUnsafe
theorem riverRuns_row_tie : Rows.riverRunsRow.laidByTextAt .later Tryz.pinned [.wider, .data] true :=
  OpenClaim.laidByTextAt_later rfl rfl tie noOwnUnsafe
theorem riverDowns_row_tie : Rows.riverDownsRow.laidByTextAt .later Tryz.pinned [.wider, .data] true :=
  OpenClaim.laidByTextAt_later rfl rfl tie noOwnUnsafe
theorem riverKept_row_tie : Rows.riverKeptRow.laidByTextAt .later Tryz.pinned [.wider, .data] true :=
  OpenClaim.laidByTextAt_later rfl rfl tie noOwnUnsafe
theorem riverDownhill_row_tie : Rows.riverDownhillRow.laidByTextAt .later Tryz.pinned [.wider, .data] true :=
  OpenClaim.laidByTextAt_later rfl rfl tie noOwnUnsafe
theorem riverOrder_row_tie : Rows.riverOrderRow.laidByTextAt .later Tryz.pinned [.wider, .data] true :=
  OpenClaim.laidByTextAt_later rfl rfl tie noOwnUnsafe
theorem riverDeep_row_tie : Rows.riverDeepRow.laidByTextAt .later Tryz.pinned [.wider, .data] true :=
  OpenClaim.laidByTextAt_later rfl rfl tie noOwnUnsafe
theorem riverKeeps_row_tie : Rows.riverKeepsRow.laidByTextAt .later Tryz.pinned [.wider, .data] true :=
  OpenClaim.laidByTextAt_later rfl rfl tie noOwnUnsafe
theorem shareAllUpto_row_tie : Rows.shareAllUptoRow.laidByTextAt .later Tryz.pinned [.wider, .data] true :=
  OpenClaim.laidByTextAt_later rfl rfl tie noOwnUnsafe
theorem tracerFlowsUpto_row_tie : Rows.tracerFlowsUptoRow.laidByTextAt .later Tryz.pinned [.wider, .data] true :=
  OpenClaim.laidByTextAt_later rfl rfl tie noOwnUnsafe
theorem riverRunsUpto_row_tie : Rows.riverRunsUptoRow.laidByTextAt .later Tryz.pinned [.wider, .data] true :=
  OpenClaim.laidByTextAt_later rfl rfl tie noOwnUnsafe
theorem riverDownsUpto_row_tie : Rows.riverDownsUptoRow.laidByTextAt .later Tryz.pinned [.wider, .data] true :=
  OpenClaim.laidByTextAt_later rfl rfl tie noOwnUnsafe
theorem riverKeptUpto_row_tie : Rows.riverKeptUptoRow.laidByTextAt .later Tryz.pinned [.wider, .data] true :=
  OpenClaim.laidByTextAt_later rfl rfl tie noOwnUnsafe
theorem riverDownhillUpto_row_tie : Rows.riverDownhillUptoRow.laidByTextAt .later Tryz.pinned [.wider, .data] true :=
  OpenClaim.laidByTextAt_later rfl rfl tie noOwnUnsafe
theorem riverOrderUpto_row_tie : Rows.riverOrderUptoRow.laidByTextAt .later Tryz.pinned [.wider, .data] true :=
  OpenClaim.laidByTextAt_later rfl rfl tie noOwnUnsafe
theorem riverDeepUpto_row_tie : Rows.riverDeepUptoRow.laidByTextAt .later Tryz.pinned [.wider, .data] true :=
  OpenClaim.laidByTextAt_later rfl rfl tie noOwnUnsafe
theorem riverKeepsUpto_row_tie : Rows.riverKeepsUptoRow.laidByTextAt .later Tryz.pinned [.wider, .data] true :=
  OpenClaim.laidByTextAt_later rfl rfl tie noOwnUnsafe
end Go.Proofs.YtplhligfkbgllaaGreatDoor
