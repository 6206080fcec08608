/-
  DERIVED. GIVEN WITH THE SEED: THE CARDS: each row of YtkfafhbmdccmgaaGreatDoorRows.lean that lists a variable, with what it lists TIED to the program's text (the seventh form; the later family's looks); each row that meets fmt, with fmt's text TOLD by the authors' own Lean function (tested against real Go, not proved from fmt's source: count such statements apart). THE CARD IS WHAT COUNTS. Prove the row's statement (the work); the ties are given (YtkfafhbmdccmgaaGreatDoorTie.lean); close each card by the builder's one call (the guide's Derived/Test/ToyasCard.lean, 'card_holds'). Laid BY PROGRAM, IN A SANDBOX (cutbox-door.mjs). By AI agents, Wed Nov 11 2026. No macro, syntax, notation, axiom, sorry.
-/
import Derived.Test.YtkfafhbmdccmgaaGreatDoorRows
import GoSem.ClaimSeven
namespace Go.Proofs.YtkfafhbmdccmgaaGreatDoor
namespace Rows

/-- THE TIED CARD OF 'tarnlaw21.StepExact'. -/
def stepExactCard : Claim7 := { stood := { row := stepExactRow, standIns := [], harness := (true, "683cf731385246db7796d8ad6f4eb180d9d408f70e5152c3a317b09496f26928"), looks := false }, kinds := [], alts := [], laidByText := true, laidKinds := [.wider, .data], laidTests := true, laidLooks := .later }
def StepExactCardSaid : Prop := Claim7.holds Tryz.pinned (.plain (OpenSpec.ofChange stepExactSpec)) stepExactCard

/-- THE TIED CARD OF 'tarnlaw21.StepKept'. -/
def stepKeptCard : Claim7 := { stood := { row := stepKeptRow, standIns := [], harness := (true, "683cf731385246db7796d8ad6f4eb180d9d408f70e5152c3a317b09496f26928"), looks := false }, kinds := [], alts := [], laidByText := true, laidKinds := [.wider, .data], laidTests := true, laidLooks := .later }
def StepKeptCardSaid : Prop := Claim7.holds Tryz.pinned (.plain (OpenSpec.ofChange stepKeptSpec)) stepKeptCard

/-- THE TIED CARD OF 'tarnlaw21.StepParts'. -/
def stepPartsCard : Claim7 := { stood := { row := stepPartsRow, standIns := [], harness := (true, "683cf731385246db7796d8ad6f4eb180d9d408f70e5152c3a317b09496f26928"), looks := false }, kinds := [], alts := [], laidByText := true, laidKinds := [.wider, .data], laidTests := true, laidLooks := .later }
def StepPartsCardSaid : Prop := Claim7.holds Tryz.pinned (.plain (OpenSpec.ofChange stepPartsSpec)) stepPartsCard

/-- THE TIED CARD OF 'tarnlaw21.StepGives'. -/
def stepGivesCard : Claim7 := { stood := { row := stepGivesRow, standIns := [], harness := (true, "683cf731385246db7796d8ad6f4eb180d9d408f70e5152c3a317b09496f26928"), looks := false }, kinds := [], alts := [], laidByText := true, laidKinds := [.wider, .data], laidTests := true, laidLooks := .later }
def StepGivesCardSaid : Prop := Claim7.holds Tryz.pinned (.plain (OpenSpec.ofChange stepGivesSpec)) stepGivesCard

/-- THE TIED CARD OF 'tarnlaw21.StepMemory'. -/
def stepMemoryCard : Claim7 := { stood := { row := stepMemoryRow, standIns := [], harness := (true, "683cf731385246db7796d8ad6f4eb180d9d408f70e5152c3a317b09496f26928"), looks := false }, kinds := [], alts := [], laidByText := true, laidKinds := [.wider, .data], laidTests := true, laidLooks := .later }
def StepMemoryCardSaid : Prop := Claim7.holds Tryz.pinned (.plain (OpenSpec.ofChange stepMemorySpec)) stepMemoryCard

/-- THE TIED CARD OF 'tarnlaw21.StepRests'. -/
def stepRestsCard : Claim7 := { stood := { row := stepRestsRow, standIns := [], harness := (true, "683cf731385246db7796d8ad6f4eb180d9d408f70e5152c3a317b09496f26928"), looks := false }, kinds := [], alts := [], laidByText := true, laidKinds := [.wider, .data], laidTests := true, laidLooks := .later }
def StepRestsCardSaid : Prop := Claim7.holds Tryz.pinned (.plain (OpenSpec.ofChange stepRestsSpec)) stepRestsCard

/-- THE TIED CARD OF 'tarnlaw21.StepTurned'. -/
def stepTurnedCard : Claim7 := { stood := { row := stepTurnedRow, standIns := [], harness := (true, "683cf731385246db7796d8ad6f4eb180d9d408f70e5152c3a317b09496f26928"), looks := false }, kinds := [], alts := [], laidByText := true, laidKinds := [.wider, .data], laidTests := true, laidLooks := .later }
def StepTurnedCardSaid : Prop := Claim7.holds Tryz.pinned (.plain (OpenSpec.ofChange stepTurnedSpec)) stepTurnedCard

/-- THE SECOND FORM's CARD OF 'tarnlaw21.StepExact'. -/
def stepExactUptoCard : Claim7 := { stood := { row := stepExactUptoRow, standIns := [], harness := (true, "683cf731385246db7796d8ad6f4eb180d9d408f70e5152c3a317b09496f26928"), looks := false }, kinds := [], alts := [], laidByText := true, laidKinds := [.wider, .data], laidTests := true, laidLooks := .later }
def StepExactUptoCardSaid : Prop := Claim7.holds Tryz.pinned (.plain (OpenSpec.upto stepExactSpec)) stepExactUptoCard

/-- THE SECOND FORM's CARD OF 'tarnlaw21.StepKept'. -/
def stepKeptUptoCard : Claim7 := { stood := { row := stepKeptUptoRow, standIns := [], harness := (true, "683cf731385246db7796d8ad6f4eb180d9d408f70e5152c3a317b09496f26928"), looks := false }, kinds := [], alts := [], laidByText := true, laidKinds := [.wider, .data], laidTests := true, laidLooks := .later }
def StepKeptUptoCardSaid : Prop := Claim7.holds Tryz.pinned (.plain (OpenSpec.upto stepKeptSpec)) stepKeptUptoCard

/-- THE SECOND FORM's CARD OF 'tarnlaw21.StepParts'. -/
def stepPartsUptoCard : Claim7 := { stood := { row := stepPartsUptoRow, standIns := [], harness := (true, "683cf731385246db7796d8ad6f4eb180d9d408f70e5152c3a317b09496f26928"), looks := false }, kinds := [], alts := [], laidByText := true, laidKinds := [.wider, .data], laidTests := true, laidLooks := .later }
def StepPartsUptoCardSaid : Prop := Claim7.holds Tryz.pinned (.plain (OpenSpec.upto stepPartsSpec)) stepPartsUptoCard

/-- THE SECOND FORM's CARD OF 'tarnlaw21.StepGives'. -/
def stepGivesUptoCard : Claim7 := { stood := { row := stepGivesUptoRow, standIns := [], harness := (true, "683cf731385246db7796d8ad6f4eb180d9d408f70e5152c3a317b09496f26928"), looks := false }, kinds := [], alts := [], laidByText := true, laidKinds := [.wider, .data], laidTests := true, laidLooks := .later }
def StepGivesUptoCardSaid : Prop := Claim7.holds Tryz.pinned (.plain (OpenSpec.upto stepGivesSpec)) stepGivesUptoCard

/-- THE SECOND FORM's CARD OF 'tarnlaw21.StepMemory'. -/
def stepMemoryUptoCard : Claim7 := { stood := { row := stepMemoryUptoRow, standIns := [], harness := (true, "683cf731385246db7796d8ad6f4eb180d9d408f70e5152c3a317b09496f26928"), looks := false }, kinds := [], alts := [], laidByText := true, laidKinds := [.wider, .data], laidTests := true, laidLooks := .later }
def StepMemoryUptoCardSaid : Prop := Claim7.holds Tryz.pinned (.plain (OpenSpec.upto stepMemorySpec)) stepMemoryUptoCard

/-- THE SECOND FORM's CARD OF 'tarnlaw21.StepRests'. -/
def stepRestsUptoCard : Claim7 := { stood := { row := stepRestsUptoRow, standIns := [], harness := (true, "683cf731385246db7796d8ad6f4eb180d9d408f70e5152c3a317b09496f26928"), looks := false }, kinds := [], alts := [], laidByText := true, laidKinds := [.wider, .data], laidTests := true, laidLooks := .later }
def StepRestsUptoCardSaid : Prop := Claim7.holds Tryz.pinned (.plain (OpenSpec.upto stepRestsSpec)) stepRestsUptoCard

/-- THE SECOND FORM's CARD OF 'tarnlaw21.StepTurned'. -/
def stepTurnedUptoCard : Claim7 := { stood := { row := stepTurnedUptoRow, standIns := [], harness := (true, "683cf731385246db7796d8ad6f4eb180d9d408f70e5152c3a317b09496f26928"), looks := false }, kinds := [], alts := [], laidByText := true, laidKinds := [.wider, .data], laidTests := true, laidLooks := .later }
def StepTurnedUptoCardSaid : Prop := Claim7.holds Tryz.pinned (.plain (OpenSpec.upto stepTurnedSpec)) stepTurnedUptoCard
end Rows
end Go.Proofs.YtkfafhbmdccmgaaGreatDoor
