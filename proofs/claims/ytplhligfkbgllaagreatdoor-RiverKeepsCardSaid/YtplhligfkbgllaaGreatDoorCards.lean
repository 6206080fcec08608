/-
  DERIVED. GIVEN WITH THE SEED: THE CARDS: each row of YtplhligfkbgllaaGreatDoorRows.lean that lists a variable, with what it lists TIED to the program's text (the seventh form; the later family's looks); each row that meets fmt, with fmt's text TOLD by the authors' own Lean function (tested against real Go, not proved from fmt's source: count such statements apart). THE CARD IS WHAT COUNTS. Prove the row's statement (the work); the ties are given (YtplhligfkbgllaaGreatDoorTie.lean); close each card by the builder's one call (the guide's Derived/Test/ToyasCard.lean, 'card_holds'). Laid BY PROGRAM, IN A SANDBOX (cutbox-door.mjs). By AI agents, Wed Nov 11 2026. No macro, syntax, notation, axiom, sorry.
-/
import Derived.Test.YtplhligfkbgllaaGreatDoorRows
import GoSem.ClaimSeven
namespace Go.Proofs.YtplhligfkbgllaaGreatDoor
namespace Rows

/-- THE TIED CARD OF 'tarnlaw14.ShareAll'. -/
def shareAllCard : Claim7 := { stood := { row := shareAllRow, standIns := [], harness := (true, "78fee6c63abe0f1848884245aa960bf780b6b198ac179e9f617ebec8ad318169"), looks := false }, kinds := [], alts := [], laidByText := true, laidKinds := [.wider, .data], laidTests := true, laidLooks := .later }
def ShareAllCardSaid : Prop := Claim7.holds Tryz.pinned (.plain (OpenSpec.ofChange shareAllSpec)) shareAllCard

/-- THE TIED CARD OF 'tarnlaw17.TracerFlows'. -/
def tracerFlowsCard : Claim7 := { stood := { row := tracerFlowsRow, standIns := [], harness := (true, "78fee6c63abe0f1848884245aa960bf780b6b198ac179e9f617ebec8ad318169"), looks := false }, kinds := [], alts := [], laidByText := true, laidKinds := [.wider, .data], laidTests := true, laidLooks := .later }
def TracerFlowsCardSaid : Prop := Claim7.holds Tryz.pinned (.plain (OpenSpec.ofChange tracerFlowsSpec)) tracerFlowsCard

/-- THE TIED CARD OF 'tarnlaw19.RiverRuns'. -/
def riverRunsCard : Claim7 := { stood := { row := riverRunsRow, standIns := [], harness := (true, "78fee6c63abe0f1848884245aa960bf780b6b198ac179e9f617ebec8ad318169"), looks := false }, kinds := [], alts := [], laidByText := true, laidKinds := [.wider, .data], laidTests := true, laidLooks := .later }
def RiverRunsCardSaid : Prop := Claim7.holds Tryz.pinned (.plain (OpenSpec.ofChange riverRunsSpec)) riverRunsCard

/-- THE TIED CARD OF 'tarnlaw19.RiverDowns'. -/
def riverDownsCard : Claim7 := { stood := { row := riverDownsRow, standIns := [], harness := (true, "78fee6c63abe0f1848884245aa960bf780b6b198ac179e9f617ebec8ad318169"), looks := false }, kinds := [], alts := [], laidByText := true, laidKinds := [.wider, .data], laidTests := true, laidLooks := .later }
def RiverDownsCardSaid : Prop := Claim7.holds Tryz.pinned (.plain (OpenSpec.ofChange riverDownsSpec)) riverDownsCard

/-- THE TIED CARD OF 'tarnlaw19.RiverKept'. -/
def riverKeptCard : Claim7 := { stood := { row := riverKeptRow, standIns := [], harness := (true, "78fee6c63abe0f1848884245aa960bf780b6b198ac179e9f617ebec8ad318169"), looks := false }, kinds := [], alts := [], laidByText := true, laidKinds := [.wider, .data], laidTests := true, laidLooks := .later }
def RiverKeptCardSaid : Prop := Claim7.holds Tryz.pinned (.plain (OpenSpec.ofChange riverKeptSpec)) riverKeptCard

/-- THE TIED CARD OF 'tarnlaw19.RiverDownhill'. -/
def riverDownhillCard : Claim7 := { stood := { row := riverDownhillRow, standIns := [], harness := (true, "78fee6c63abe0f1848884245aa960bf780b6b198ac179e9f617ebec8ad318169"), looks := false }, kinds := [], alts := [], laidByText := true, laidKinds := [.wider, .data], laidTests := true, laidLooks := .later }
def RiverDownhillCardSaid : Prop := Claim7.holds Tryz.pinned (.plain (OpenSpec.ofChange riverDownhillSpec)) riverDownhillCard

/-- THE TIED CARD OF 'tarnlaw19.RiverOrder'. -/
def riverOrderCard : Claim7 := { stood := { row := riverOrderRow, standIns := [], harness := (true, "78fee6c63abe0f1848884245aa960bf780b6b198ac179e9f617ebec8ad318169"), looks := false }, kinds := [], alts := [], laidByText := true, laidKinds := [.wider, .data], laidTests := true, laidLooks := .later }
def RiverOrderCardSaid : Prop := Claim7.holds Tryz.pinned (.plain (OpenSpec.ofChange riverOrderSpec)) riverOrderCard

/-- THE TIED CARD OF 'tarnlaw19.RiverDeep'. -/
def riverDeepCard : Claim7 := { stood := { row := riverDeepRow, standIns := [], harness := (true, "78fee6c63abe0f1848884245aa960bf780b6b198ac179e9f617ebec8ad318169"), looks := false }, kinds := [], alts := [], laidByText := true, laidKinds := [.wider, .data], laidTests := true, laidLooks := .later }
def RiverDeepCardSaid : Prop := Claim7.holds Tryz.pinned (.plain (OpenSpec.ofChange riverDeepSpec)) riverDeepCard

/-- THE TIED CARD OF 'tarnlaw19.RiverKeeps'. -/
def riverKeepsCard : Claim7 := { stood := { row := riverKeepsRow, standIns := [], harness := (true, "78fee6c63abe0f1848884245aa960bf780b6b198ac179e9f617ebec8ad318169"), looks := false }, kinds := [], alts := [], laidByText := true, laidKinds := [.wider, .data], laidTests := true, laidLooks := .later }
def RiverKeepsCardSaid : Prop := Claim7.holds Tryz.pinned (.plain (OpenSpec.ofChange riverKeepsSpec)) riverKeepsCard

/-- THE SECOND FORM's CARD OF 'tarnlaw14.ShareAll'. -/
def shareAllUptoCard : Claim7 := { stood := { row := shareAllUptoRow, standIns := [], harness := (true, "78fee6c63abe0f1848884245aa960bf780b6b198ac179e9f617ebec8ad318169"), looks := false }, kinds := [], alts := [], laidByText := true, laidKinds := [.wider, .data], laidTests := true, laidLooks := .later }
def ShareAllUptoCardSaid : Prop := Claim7.holds Tryz.pinned (.plain (OpenSpec.upto shareAllSpec)) shareAllUptoCard

/-- THE SECOND FORM's CARD OF 'tarnlaw17.TracerFlows'. -/
def tracerFlowsUptoCard : Claim7 := { stood := { row := tracerFlowsUptoRow, standIns := [], harness := (true, "78fee6c63abe0f1848884245aa960bf780b6b198ac179e9f617ebec8ad318169"), looks := false }, kinds := [], alts := [], laidByText := true, laidKinds := [.wider, .data], laidTests := true, laidLooks := .later }
def TracerFlowsUptoCardSaid : Prop := Claim7.holds Tryz.pinned (.plain (OpenSpec.upto tracerFlowsSpec)) tracerFlowsUptoCard

/-- THE SECOND FORM's CARD OF 'tarnlaw19.RiverRuns'. -/
def riverRunsUptoCard : Claim7 := { stood := { row := riverRunsUptoRow, standIns := [], harness := (true, "78fee6c63abe0f1848884245aa960bf780b6b198ac179e9f617ebec8ad318169"), looks := false }, kinds := [], alts := [], laidByText := true, laidKinds := [.wider, .data], laidTests := true, laidLooks := .later }
def RiverRunsUptoCardSaid : Prop := Claim7.holds Tryz.pinned (.plain (OpenSpec.upto riverRunsSpec)) riverRunsUptoCard

/-- THE SECOND FORM's CARD OF 'tarnlaw19.RiverDowns'. -/
def riverDownsUptoCard : Claim7 := { stood := { row := riverDownsUptoRow, standIns := [], harness := (true, "78fee6c63abe0f1848884245aa960bf780b6b198ac179e9f617ebec8ad318169"), looks := false }, kinds := [], alts := [], laidByText := true, laidKinds := [.wider, .data], laidTests := true, laidLooks := .later }
def RiverDownsUptoCardSaid : Prop := Claim7.holds Tryz.pinned (.plain (OpenSpec.upto riverDownsSpec)) riverDownsUptoCard

/-- THE SECOND FORM's CARD OF 'tarnlaw19.RiverKept'. -/
def riverKeptUptoCard : Claim7 := { stood := { row := riverKeptUptoRow, standIns := [], harness := (true, "78fee6c63abe0f1848884245aa960bf780b6b198ac179e9f617ebec8ad318169"), looks := false }, kinds := [], alts := [], laidByText := true, laidKinds := [.wider, .data], laidTests := true, laidLooks := .later }
def RiverKeptUptoCardSaid : Prop := Claim7.holds Tryz.pinned (.plain (OpenSpec.upto riverKeptSpec)) riverKeptUptoCard

/-- THE SECOND FORM's CARD OF 'tarnlaw19.RiverDownhill'. -/
def riverDownhillUptoCard : Claim7 := { stood := { row := riverDownhillUptoRow, standIns := [], harness := (true, "78fee6c63abe0f1848884245aa960bf780b6b198ac179e9f617ebec8ad318169"), looks := false }, kinds := [], alts := [], laidByText := true, laidKinds := [.wider, .data], laidTests := true, laidLooks := .later }
def RiverDownhillUptoCardSaid : Prop := Claim7.holds Tryz.pinned (.plain (OpenSpec.upto riverDownhillSpec)) riverDownhillUptoCard

/-- THE SECOND FORM's CARD OF 'tarnlaw19.RiverOrder'. -/
def riverOrderUptoCard : Claim7 := { stood := { row := riverOrderUptoRow, standIns := [], harness := (true, "78fee6c63abe0f1848884245aa960bf780b6b198ac179e9f617ebec8ad318169"), looks := false }, kinds := [], alts := [], laidByText := true, laidKinds := [.wider, .data], laidTests := true, laidLooks := .later }
def RiverOrderUptoCardSaid : Prop := Claim7.holds Tryz.pinned (.plain (OpenSpec.upto riverOrderSpec)) riverOrderUptoCard

/-- THE SECOND FORM's CARD OF 'tarnlaw19.RiverDeep'. -/
def riverDeepUptoCard : Claim7 := { stood := { row := riverDeepUptoRow, standIns := [], harness := (true, "78fee6c63abe0f1848884245aa960bf780b6b198ac179e9f617ebec8ad318169"), looks := false }, kinds := [], alts := [], laidByText := true, laidKinds := [.wider, .data], laidTests := true, laidLooks := .later }
def RiverDeepUptoCardSaid : Prop := Claim7.holds Tryz.pinned (.plain (OpenSpec.upto riverDeepSpec)) riverDeepUptoCard

/-- THE SECOND FORM's CARD OF 'tarnlaw19.RiverKeeps'. -/
def riverKeepsUptoCard : Claim7 := { stood := { row := riverKeepsUptoRow, standIns := [], harness := (true, "78fee6c63abe0f1848884245aa960bf780b6b198ac179e9f617ebec8ad318169"), looks := false }, kinds := [], alts := [], laidByText := true, laidKinds := [.wider, .data], laidTests := true, laidLooks := .later }
def RiverKeepsUptoCardSaid : Prop := Claim7.holds Tryz.pinned (.plain (OpenSpec.upto riverKeepsSpec)) riverKeepsUptoCard
end Rows
end Go.Proofs.YtplhligfkbgllaaGreatDoor
