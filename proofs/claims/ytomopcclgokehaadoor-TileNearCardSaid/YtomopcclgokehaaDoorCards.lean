/-
  DERIVED. GIVEN WITH THE SEED: THE CARDS: each row of YtomopcclgokehaaDoorRows.lean that lists a variable, with what it lists TIED to the program's text (the seventh form; the later family's looks); each row that meets fmt, with fmt's text TOLD by the authors' own Lean function (tested against real Go, not proved from fmt's source: count such statements apart). THE CARD IS WHAT COUNTS. Prove the row's statement (the work); the ties are given (YtomopcclgokehaaDoorTie.lean); close each card by the builder's one call (the guide's Derived/Test/ToyasCard.lean, 'card_holds'). Laid BY PROGRAM, IN A SANDBOX (cutbox-door.mjs). By AI agents, Wed Nov 11 2026. No macro, syntax, notation, axiom, sorry.
-/
import Derived.Test.YtomopcclgokehaaDoorRows
import GoSem.ClaimSeven
namespace Go.Proofs.YtomopcclgokehaaDoor
namespace Rows

/-- THE TIED CARD OF 'tarnlaw24.TileBytes'. -/
def tileBytesCard : Claim7 := { stood := { row := tileBytesRow, standIns := [], harness := (true, "901cbe4a31dccb0dbe60f466e19b0f64a9f46ef0e64d151d7ddb72a006a78ac7"), looks := false }, kinds := [], alts := [], laidByText := true, laidKinds := [.data], laidTests := true, laidLooks := .later }
def TileBytesCardSaid : Prop := Claim7.holds Tryd.pinned (.plain (OpenSpec.ofChange tileBytesSpec)) tileBytesCard

/-- THE TIED CARD OF 'tarnlaw24.TileBack'. -/
def tileBackCard : Claim7 := { stood := { row := tileBackRow, standIns := [], harness := (true, "901cbe4a31dccb0dbe60f466e19b0f64a9f46ef0e64d151d7ddb72a006a78ac7"), looks := false }, kinds := [], alts := [], laidByText := true, laidKinds := [.data], laidTests := true, laidLooks := .later }
def TileBackCardSaid : Prop := Claim7.holds Tryd.pinned (.plain (OpenSpec.ofChange tileBackSpec)) tileBackCard

/-- THE TIED CARD OF 'tarnlaw24.TileCuts'. -/
def tileCutsCard : Claim7 := { stood := { row := tileCutsRow, standIns := [], harness := (true, "901cbe4a31dccb0dbe60f466e19b0f64a9f46ef0e64d151d7ddb72a006a78ac7"), looks := false }, kinds := [], alts := [], laidByText := true, laidKinds := [.data], laidTests := true, laidLooks := .later }
def TileCutsCardSaid : Prop := Claim7.holds Tryd.pinned (.plain (OpenSpec.ofChange tileCutsSpec)) tileCutsCard

/-- THE TIED CARD OF 'tarnlaw24.TileDepths'. -/
def tileDepthsCard : Claim7 := { stood := { row := tileDepthsRow, standIns := [], harness := (true, "901cbe4a31dccb0dbe60f466e19b0f64a9f46ef0e64d151d7ddb72a006a78ac7"), looks := false }, kinds := [], alts := [], laidByText := true, laidKinds := [.data], laidTests := true, laidLooks := .later }
def TileDepthsCardSaid : Prop := Claim7.holds Tryd.pinned (.plain (OpenSpec.ofChange tileDepthsSpec)) tileDepthsCard

/-- THE TIED CARD OF 'tarnlaw24.TileMemory'. -/
def tileMemoryCard : Claim7 := { stood := { row := tileMemoryRow, standIns := [], harness := (true, "901cbe4a31dccb0dbe60f466e19b0f64a9f46ef0e64d151d7ddb72a006a78ac7"), looks := false }, kinds := [], alts := [], laidByText := true, laidKinds := [.data], laidTests := true, laidLooks := .later }
def TileMemoryCardSaid : Prop := Claim7.holds Tryd.pinned (.plain (OpenSpec.ofChange tileMemorySpec)) tileMemoryCard

/-- THE TIED CARD OF 'tarnlaw24.TileNear'. -/
def tileNearCard : Claim7 := { stood := { row := tileNearRow, standIns := [], harness := (true, "901cbe4a31dccb0dbe60f466e19b0f64a9f46ef0e64d151d7ddb72a006a78ac7"), looks := false }, kinds := [], alts := [], laidByText := true, laidKinds := [.data], laidTests := true, laidLooks := .later }
def TileNearCardSaid : Prop := Claim7.holds Tryd.pinned (.plain (OpenSpec.ofChange tileNearSpec)) tileNearCard

/-- THE SECOND FORM's CARD OF 'tarnlaw24.TileBytes'. -/
def tileBytesUptoCard : Claim7 := { stood := { row := tileBytesUptoRow, standIns := [], harness := (true, "901cbe4a31dccb0dbe60f466e19b0f64a9f46ef0e64d151d7ddb72a006a78ac7"), looks := false }, kinds := [], alts := [], laidByText := true, laidKinds := [.data], laidTests := true, laidLooks := .later }
def TileBytesUptoCardSaid : Prop := Claim7.holds Tryd.pinned (.plain (OpenSpec.upto tileBytesSpec)) tileBytesUptoCard

/-- THE SECOND FORM's CARD OF 'tarnlaw24.TileBack'. -/
def tileBackUptoCard : Claim7 := { stood := { row := tileBackUptoRow, standIns := [], harness := (true, "901cbe4a31dccb0dbe60f466e19b0f64a9f46ef0e64d151d7ddb72a006a78ac7"), looks := false }, kinds := [], alts := [], laidByText := true, laidKinds := [.data], laidTests := true, laidLooks := .later }
def TileBackUptoCardSaid : Prop := Claim7.holds Tryd.pinned (.plain (OpenSpec.upto tileBackSpec)) tileBackUptoCard

/-- THE SECOND FORM's CARD OF 'tarnlaw24.TileCuts'. -/
def tileCutsUptoCard : Claim7 := { stood := { row := tileCutsUptoRow, standIns := [], harness := (true, "901cbe4a31dccb0dbe60f466e19b0f64a9f46ef0e64d151d7ddb72a006a78ac7"), looks := false }, kinds := [], alts := [], laidByText := true, laidKinds := [.data], laidTests := true, laidLooks := .later }
def TileCutsUptoCardSaid : Prop := Claim7.holds Tryd.pinned (.plain (OpenSpec.upto tileCutsSpec)) tileCutsUptoCard

/-- THE SECOND FORM's CARD OF 'tarnlaw24.TileDepths'. -/
def tileDepthsUptoCard : Claim7 := { stood := { row := tileDepthsUptoRow, standIns := [], harness := (true, "901cbe4a31dccb0dbe60f466e19b0f64a9f46ef0e64d151d7ddb72a006a78ac7"), looks := false }, kinds := [], alts := [], laidByText := true, laidKinds := [.data], laidTests := true, laidLooks := .later }
def TileDepthsUptoCardSaid : Prop := Claim7.holds Tryd.pinned (.plain (OpenSpec.upto tileDepthsSpec)) tileDepthsUptoCard

/-- THE SECOND FORM's CARD OF 'tarnlaw24.TileMemory'. -/
def tileMemoryUptoCard : Claim7 := { stood := { row := tileMemoryUptoRow, standIns := [], harness := (true, "901cbe4a31dccb0dbe60f466e19b0f64a9f46ef0e64d151d7ddb72a006a78ac7"), looks := false }, kinds := [], alts := [], laidByText := true, laidKinds := [.data], laidTests := true, laidLooks := .later }
def TileMemoryUptoCardSaid : Prop := Claim7.holds Tryd.pinned (.plain (OpenSpec.upto tileMemorySpec)) tileMemoryUptoCard

/-- THE SECOND FORM's CARD OF 'tarnlaw24.TileNear'. -/
def tileNearUptoCard : Claim7 := { stood := { row := tileNearUptoRow, standIns := [], harness := (true, "901cbe4a31dccb0dbe60f466e19b0f64a9f46ef0e64d151d7ddb72a006a78ac7"), looks := false }, kinds := [], alts := [], laidByText := true, laidKinds := [.data], laidTests := true, laidLooks := .later }
def TileNearUptoCardSaid : Prop := Claim7.holds Tryd.pinned (.plain (OpenSpec.upto tileNearSpec)) tileNearUptoCard
end Rows
end Go.Proofs.YtomopcclgokehaaDoor
