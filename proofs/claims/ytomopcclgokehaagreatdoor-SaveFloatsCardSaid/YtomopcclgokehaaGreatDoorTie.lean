/-
  DERIVED. GIVEN WITH THE SEED: THE PROGRAM's TIES (one call each: nine closed facts by the kernel) AND EACH ROW's TIE, after the 31st guide's Derived/Test/Toyas{Tie, Card}.lean. No idea stands in it: it is a product of the set-up. Laid BY PROGRAM, IN A SANDBOX (cutbox-door.mjs). By AI agents, Wed Nov 11 2026. No macro, syntax, notation, axiom, sorry.
-/
import Derived.Test.YtomopcclgokehaaGreatDoorRows
import Derived.LaidByTextLater
import Derived.SevenTiedAt
import Derived.LaidSub
import Derived.LaidOnce
namespace Go.Proofs.YtomopcclgokehaaGreatDoor
open Go
set_option maxRecDepth 100000
theorem seatTie1 : Tryz.prog.laidByTextLater [("tarn/cube.frames", Rows.laid_tarn_cube_frames), ("tarn/geom.frames", Rows.laid_tarn_geom_frames)] [.wider, .data] true :=
  Program.laidByTextLater_by_one 67 8 55 (by kernel_rfl) (by kernel_rfl) (by kernel_rfl) (by kernel_rfl) (by kernel_rfl) (by kernel_rfl) (fun _ _ => by kernel_rfl)
theorem noOwnUnsafe : Tryz.pinned.checked.prog.headLifts.contains "ownunsafe" = false := by kernel_rfl
theorem tie : Tryz.prog.laidByTextLater [("tarn/geom.frames", Rows.laid_tarn_geom_frames)] [.data] true :=
  Program.laidByTextLater.sub seatTie1 ["tarn/geom.frames"] (by kernel_rfl) (by kernel_rfl)
theorem tileSeas_row_tie : Rows.tileSeasRow.laidByTextAt .later Tryz.pinned [.data] true :=
  OpenClaim.laidByTextAt_later rfl rfl tie noOwnUnsafe
theorem tie2 : Tryz.prog.laidByTextLater [("tarn/cube.frames", Rows.laid_tarn_cube_frames), ("tarn/geom.frames", Rows.laid_tarn_geom_frames)] [.wider, .data] true :=
  Program.laidByTextLater.sub seatTie1 ["tarn/cube.frames", "tarn/geom.frames"] (by kernel_rfl) (by kernel_rfl)
theorem saveEncodes_row_tie : Rows.saveEncodesRow.laidByTextAt .later Tryz.pinned [.wider, .data] true :=
  OpenClaim.laidByTextAt_later rfl rfl tie2 noOwnUnsafe
theorem saveDecodes_row_tie : Rows.saveDecodesRow.laidByTextAt .later Tryz.pinned [.wider, .data] true :=
  OpenClaim.laidByTextAt_later rfl rfl tie2 noOwnUnsafe
theorem saveBack_row_tie : Rows.saveBackRow.laidByTextAt .later Tryz.pinned [.wider, .data] true :=
  OpenClaim.laidByTextAt_later rfl rfl tie2 noOwnUnsafe
theorem saveForth_row_tie : Rows.saveForthRow.laidByTextAt .later Tryz.pinned [.wider, .data] true :=
  OpenClaim.laidByTextAt_later rfl rfl tie2 noOwnUnsafe
theorem saveTurned_row_tie : Rows.saveTurnedRow.laidByTextAt .later Tryz.pinned [.wider, .data] true :=
  OpenClaim.laidByTextAt_later rfl rfl tie2 noOwnUnsafe
theorem saveSum_row_tie : Rows.saveSumRow.laidByTextAt .later Tryz.pinned [.wider, .data] true :=
  OpenClaim.laidByTextAt_later rfl rfl tie2 noOwnUnsafe
theorem saveFloats_row_tie : Rows.saveFloatsRow.laidByTextAt .later Tryz.pinned [.wider, .data] true :=
  OpenClaim.laidByTextAt_later rfl rfl tie2 noOwnUnsafe
theorem saveKeeps_row_tie : Rows.saveKeepsRow.laidByTextAt .later Tryz.pinned [.wider, .data] true :=
  OpenClaim.laidByTextAt_later rfl rfl tie2 noOwnUnsafe
theorem tileSeasUpto_row_tie : Rows.tileSeasUptoRow.laidByTextAt .later Tryz.pinned [.data] true :=
  OpenClaim.laidByTextAt_later rfl rfl tie noOwnUnsafe
theorem saveEncodesUpto_row_tie : Rows.saveEncodesUptoRow.laidByTextAt .later Tryz.pinned [.wider, .data] true :=
  OpenClaim.laidByTextAt_later rfl rfl tie2 noOwnUnsafe
theorem saveDecodesUpto_row_tie : Rows.saveDecodesUptoRow.laidByTextAt .later Tryz.pinned [.wider, .data] true :=
  OpenClaim.laidByTextAt_later rfl rfl tie2 noOwnUnsafe
theorem saveBackUpto_row_tie : Rows.saveBackUptoRow.laidByTextAt .later Tryz.pinned [.wider, .data] true :=
  OpenClaim.laidByTextAt_later rfl rfl tie2 noOwnUnsafe
theorem saveForthUpto_row_tie : Rows.saveForthUptoRow.laidByTextAt .later Tryz.pinned [.wider, .data] true :=
  OpenClaim.laidByTextAt_later rfl rfl tie2 noOwnUnsafe
theorem saveTurnedUpto_row_tie : Rows.saveTurnedUptoRow.laidByTextAt .later Tryz.pinned [.wider, .data] true :=
  OpenClaim.laidByTextAt_later rfl rfl tie2 noOwnUnsafe
theorem saveSumUpto_row_tie : Rows.saveSumUptoRow.laidByTextAt .later Tryz.pinned [.wider, .data] true :=
  OpenClaim.laidByTextAt_later rfl rfl tie2 noOwnUnsafe
theorem saveFloatsUpto_row_tie : Rows.saveFloatsUptoRow.laidByTextAt .later Tryz.pinned [.wider, .data] true :=
  OpenClaim.laidByTextAt_later rfl rfl tie2 noOwnUnsafe
theorem saveKeepsUpto_row_tie : Rows.saveKeepsUptoRow.laidByTextAt .later Tryz.pinned [.wider, .data] true :=
  OpenClaim.laidByTextAt_later rfl rfl tie2 noOwnUnsafe
end Go.Proofs.YtomopcclgokehaaGreatDoor
