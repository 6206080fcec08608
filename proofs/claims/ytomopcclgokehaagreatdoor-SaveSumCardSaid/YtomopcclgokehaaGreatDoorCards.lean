/-
  DERIVED. GIVEN WITH THE SEED: THE CARDS: each row of YtomopcclgokehaaGreatDoorRows.lean that lists a variable, with what it lists TIED to the program's text (the seventh form; the later family's looks); each row that meets fmt, with fmt's text TOLD by the authors' own Lean function (tested against real Go, not proved from fmt's source: count such statements apart). THE CARD IS WHAT COUNTS. Prove the row's statement (the work); the ties are given (YtomopcclgokehaaGreatDoorTie.lean); close each card by the builder's one call (the guide's Derived/Test/ToyasCard.lean, 'card_holds'). Laid BY PROGRAM, IN A SANDBOX (cutbox-door.mjs). By AI agents, Wed Nov 11 2026. No macro, syntax, notation, axiom, sorry.
-/
import Derived.Test.YtomopcclgokehaaGreatDoorRows
import GoSem.ClaimSeven
namespace Go.Proofs.YtomopcclgokehaaGreatDoor
namespace Rows

/-- THE TIED CARD OF 'tarnlaw24.TileSeas'. -/
def tileSeasCard : Claim7 := { stood := { row := tileSeasRow, standIns := [], harness := (true, "2273f09aaa9b9b1a38ee314dd1dcc464b3e9af4b3fa99a5ece1fa69518c1ab6d"), looks := true }, kinds := [], alts := [], laidByText := true, laidKinds := [.data], laidTests := true, laidLooks := .later }
def TileSeasCardSaid : Prop := Claim7.holds Tryz.pinned (.plain (OpenSpec.ofChange tileSeasSpec)) tileSeasCard

/-- THE TIED CARD OF 'tarnlaw25.SaveEncodes'. -/
def saveEncodesCard : Claim7 := { stood := { row := saveEncodesRow, standIns := [], harness := (true, "2273f09aaa9b9b1a38ee314dd1dcc464b3e9af4b3fa99a5ece1fa69518c1ab6d"), looks := true }, kinds := [], alts := [], laidByText := true, laidKinds := [.wider, .data], laidTests := true, laidLooks := .later }
def SaveEncodesCardSaid : Prop := Claim7.holds Tryz.pinned (.plain (OpenSpec.ofChange saveEncodesSpec)) saveEncodesCard

/-- THE TIED CARD OF 'tarnlaw25.SaveDecodes'. -/
def saveDecodesCard : Claim7 := { stood := { row := saveDecodesRow, standIns := [], harness := (true, "2273f09aaa9b9b1a38ee314dd1dcc464b3e9af4b3fa99a5ece1fa69518c1ab6d"), looks := true }, kinds := [], alts := [], laidByText := true, laidKinds := [.wider, .data], laidTests := true, laidLooks := .later }
def SaveDecodesCardSaid : Prop := Claim7.holds Tryz.pinned (.plain (OpenSpec.ofChange saveDecodesSpec)) saveDecodesCard

/-- THE TIED CARD OF 'tarnlaw25.SaveBack'. -/
def saveBackCard : Claim7 := { stood := { row := saveBackRow, standIns := [], harness := (true, "2273f09aaa9b9b1a38ee314dd1dcc464b3e9af4b3fa99a5ece1fa69518c1ab6d"), looks := true }, kinds := [], alts := [], laidByText := true, laidKinds := [.wider, .data], laidTests := true, laidLooks := .later }
def SaveBackCardSaid : Prop := Claim7.holds Tryz.pinned (.plain (OpenSpec.ofChange saveBackSpec)) saveBackCard

/-- THE TIED CARD OF 'tarnlaw25.SaveForth'. -/
def saveForthCard : Claim7 := { stood := { row := saveForthRow, standIns := [], harness := (true, "2273f09aaa9b9b1a38ee314dd1dcc464b3e9af4b3fa99a5ece1fa69518c1ab6d"), looks := true }, kinds := [], alts := [], laidByText := true, laidKinds := [.wider, .data], laidTests := true, laidLooks := .later }
def SaveForthCardSaid : Prop := Claim7.holds Tryz.pinned (.plain (OpenSpec.ofChange saveForthSpec)) saveForthCard

/-- THE TIED CARD OF 'tarnlaw25.SaveTurned'. -/
def saveTurnedCard : Claim7 := { stood := { row := saveTurnedRow, standIns := [], harness := (true, "2273f09aaa9b9b1a38ee314dd1dcc464b3e9af4b3fa99a5ece1fa69518c1ab6d"), looks := true }, kinds := [], alts := [], laidByText := true, laidKinds := [.wider, .data], laidTests := true, laidLooks := .later }
def SaveTurnedCardSaid : Prop := Claim7.holds Tryz.pinned (.plain (OpenSpec.ofChange saveTurnedSpec)) saveTurnedCard

/-- THE TIED CARD OF 'tarnlaw25.SaveSum'. -/
def saveSumCard : Claim7 := { stood := { row := saveSumRow, standIns := [], harness := (true, "2273f09aaa9b9b1a38ee314dd1dcc464b3e9af4b3fa99a5ece1fa69518c1ab6d"), looks := true }, kinds := [], alts := [], laidByText := true, laidKinds := [.wider, .data], laidTests := true, laidLooks := .later }
def SaveSumCardSaid : Prop := Claim7.holds Tryz.pinned (.plain (OpenSpec.ofChange saveSumSpec)) saveSumCard

/-- THE TIED CARD OF 'tarnlaw25.SaveFloats'. -/
def saveFloatsCard : Claim7 := { stood := { row := saveFloatsRow, standIns := [], harness := (true, "2273f09aaa9b9b1a38ee314dd1dcc464b3e9af4b3fa99a5ece1fa69518c1ab6d"), looks := true }, kinds := [], alts := [], laidByText := true, laidKinds := [.wider, .data], laidTests := true, laidLooks := .later }
def SaveFloatsCardSaid : Prop := Claim7.holds Tryz.pinned (.plain (OpenSpec.ofChange saveFloatsSpec)) saveFloatsCard

/-- THE TIED CARD OF 'tarnlaw25.SaveKeeps'. -/
def saveKeepsCard : Claim7 := { stood := { row := saveKeepsRow, standIns := [], harness := (true, "2273f09aaa9b9b1a38ee314dd1dcc464b3e9af4b3fa99a5ece1fa69518c1ab6d"), looks := true }, kinds := [], alts := [], laidByText := true, laidKinds := [.wider, .data], laidTests := true, laidLooks := .later }
def SaveKeepsCardSaid : Prop := Claim7.holds Tryz.pinned (.plain (OpenSpec.ofChange saveKeepsSpec)) saveKeepsCard

/-- THE SECOND FORM's CARD OF 'tarnlaw24.TileSeas'. -/
def tileSeasUptoCard : Claim7 := { stood := { row := tileSeasUptoRow, standIns := [], harness := (true, "2273f09aaa9b9b1a38ee314dd1dcc464b3e9af4b3fa99a5ece1fa69518c1ab6d"), looks := true }, kinds := [], alts := [], laidByText := true, laidKinds := [.data], laidTests := true, laidLooks := .later }
def TileSeasUptoCardSaid : Prop := Claim7.holds Tryz.pinned (.plain (OpenSpec.upto tileSeasSpec)) tileSeasUptoCard

/-- THE SECOND FORM's CARD OF 'tarnlaw25.SaveEncodes'. -/
def saveEncodesUptoCard : Claim7 := { stood := { row := saveEncodesUptoRow, standIns := [], harness := (true, "2273f09aaa9b9b1a38ee314dd1dcc464b3e9af4b3fa99a5ece1fa69518c1ab6d"), looks := true }, kinds := [], alts := [], laidByText := true, laidKinds := [.wider, .data], laidTests := true, laidLooks := .later }
def SaveEncodesUptoCardSaid : Prop := Claim7.holds Tryz.pinned (.plain (OpenSpec.upto saveEncodesSpec)) saveEncodesUptoCard

/-- THE SECOND FORM's CARD OF 'tarnlaw25.SaveDecodes'. -/
def saveDecodesUptoCard : Claim7 := { stood := { row := saveDecodesUptoRow, standIns := [], harness := (true, "2273f09aaa9b9b1a38ee314dd1dcc464b3e9af4b3fa99a5ece1fa69518c1ab6d"), looks := true }, kinds := [], alts := [], laidByText := true, laidKinds := [.wider, .data], laidTests := true, laidLooks := .later }
def SaveDecodesUptoCardSaid : Prop := Claim7.holds Tryz.pinned (.plain (OpenSpec.upto saveDecodesSpec)) saveDecodesUptoCard

/-- THE SECOND FORM's CARD OF 'tarnlaw25.SaveBack'. -/
def saveBackUptoCard : Claim7 := { stood := { row := saveBackUptoRow, standIns := [], harness := (true, "2273f09aaa9b9b1a38ee314dd1dcc464b3e9af4b3fa99a5ece1fa69518c1ab6d"), looks := true }, kinds := [], alts := [], laidByText := true, laidKinds := [.wider, .data], laidTests := true, laidLooks := .later }
def SaveBackUptoCardSaid : Prop := Claim7.holds Tryz.pinned (.plain (OpenSpec.upto saveBackSpec)) saveBackUptoCard

/-- THE SECOND FORM's CARD OF 'tarnlaw25.SaveForth'. -/
def saveForthUptoCard : Claim7 := { stood := { row := saveForthUptoRow, standIns := [], harness := (true, "2273f09aaa9b9b1a38ee314dd1dcc464b3e9af4b3fa99a5ece1fa69518c1ab6d"), looks := true }, kinds := [], alts := [], laidByText := true, laidKinds := [.wider, .data], laidTests := true, laidLooks := .later }
def SaveForthUptoCardSaid : Prop := Claim7.holds Tryz.pinned (.plain (OpenSpec.upto saveForthSpec)) saveForthUptoCard

/-- THE SECOND FORM's CARD OF 'tarnlaw25.SaveTurned'. -/
def saveTurnedUptoCard : Claim7 := { stood := { row := saveTurnedUptoRow, standIns := [], harness := (true, "2273f09aaa9b9b1a38ee314dd1dcc464b3e9af4b3fa99a5ece1fa69518c1ab6d"), looks := true }, kinds := [], alts := [], laidByText := true, laidKinds := [.wider, .data], laidTests := true, laidLooks := .later }
def SaveTurnedUptoCardSaid : Prop := Claim7.holds Tryz.pinned (.plain (OpenSpec.upto saveTurnedSpec)) saveTurnedUptoCard

/-- THE SECOND FORM's CARD OF 'tarnlaw25.SaveSum'. -/
def saveSumUptoCard : Claim7 := { stood := { row := saveSumUptoRow, standIns := [], harness := (true, "2273f09aaa9b9b1a38ee314dd1dcc464b3e9af4b3fa99a5ece1fa69518c1ab6d"), looks := true }, kinds := [], alts := [], laidByText := true, laidKinds := [.wider, .data], laidTests := true, laidLooks := .later }
def SaveSumUptoCardSaid : Prop := Claim7.holds Tryz.pinned (.plain (OpenSpec.upto saveSumSpec)) saveSumUptoCard

/-- THE SECOND FORM's CARD OF 'tarnlaw25.SaveFloats'. -/
def saveFloatsUptoCard : Claim7 := { stood := { row := saveFloatsUptoRow, standIns := [], harness := (true, "2273f09aaa9b9b1a38ee314dd1dcc464b3e9af4b3fa99a5ece1fa69518c1ab6d"), looks := true }, kinds := [], alts := [], laidByText := true, laidKinds := [.wider, .data], laidTests := true, laidLooks := .later }
def SaveFloatsUptoCardSaid : Prop := Claim7.holds Tryz.pinned (.plain (OpenSpec.upto saveFloatsSpec)) saveFloatsUptoCard

/-- THE SECOND FORM's CARD OF 'tarnlaw25.SaveKeeps'. -/
def saveKeepsUptoCard : Claim7 := { stood := { row := saveKeepsUptoRow, standIns := [], harness := (true, "2273f09aaa9b9b1a38ee314dd1dcc464b3e9af4b3fa99a5ece1fa69518c1ab6d"), looks := true }, kinds := [], alts := [], laidByText := true, laidKinds := [.wider, .data], laidTests := true, laidLooks := .later }
def SaveKeepsUptoCardSaid : Prop := Claim7.holds Tryz.pinned (.plain (OpenSpec.upto saveKeepsSpec)) saveKeepsUptoCard
end Rows
end Go.Proofs.YtomopcclgokehaaGreatDoor
