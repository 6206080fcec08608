/-
  DERIVED. GIVEN WITH THE SEED: THE CARDS: each row of YtplhligfkbgllaaDoorRows.lean that lists a variable, with what it lists TIED to the program's text (the seventh form; the later family's looks); each row that meets fmt, with fmt's text TOLD by the authors' own Lean function (tested against real Go, not proved from fmt's source: count such statements apart). THE CARD IS WHAT COUNTS. Prove the row's statement (the work); the ties are given (YtplhligfkbgllaaDoorTie.lean); close each card by the builder's one call (the guide's Derived/Test/ToyasCard.lean, 'card_holds'). Laid BY PROGRAM, IN A SANDBOX (cutbox-door.mjs). By AI agents, Wed Nov 11 2026. No macro, syntax, notation, axiom, sorry.
-/
import Derived.Test.YtplhligfkbgllaaDoorRows
import GoSem.ClaimSeven
namespace Go.Proofs.YtplhligfkbgllaaDoor
namespace Rows

/-- THE TIED CARD OF 'tarnlaw14.ShareGives'. -/
def shareGivesCard : Claim7 := { stood := { row := shareGivesRow, standIns := [], harness := (true, "c97551f0cd5fdcbd5ed79705f5dbadfdaba6e2ea34cf47eff0f15d8490674765"), looks := false }, kinds := [], alts := [], laidByText := true, laidKinds := [.wider, .data], laidTests := true, laidLooks := .later }
def ShareGivesCardSaid : Prop := Claim7.holds Tryd.pinned (.plain (OpenSpec.ofChange shareGivesSpec)) shareGivesCard

/-- THE TIED CARD OF 'tarnlaw14.ShareKeeps'. -/
def shareKeepsCard : Claim7 := { stood := { row := shareKeepsRow, standIns := [], harness := (true, "c97551f0cd5fdcbd5ed79705f5dbadfdaba6e2ea34cf47eff0f15d8490674765"), looks := false }, kinds := [], alts := [], laidByText := true, laidKinds := [.wider, .data], laidTests := true, laidLooks := .later }
def ShareKeepsCardSaid : Prop := Claim7.holds Tryd.pinned (.plain (OpenSpec.ofChange shareKeepsSpec)) shareKeepsCard

/-- THE TIED CARD OF 'tarnlaw17.TracerGives'. -/
def tracerGivesCard : Claim7 := { stood := { row := tracerGivesRow, standIns := [], harness := (true, "c97551f0cd5fdcbd5ed79705f5dbadfdaba6e2ea34cf47eff0f15d8490674765"), looks := false }, kinds := [], alts := [], laidByText := true, laidKinds := [.wider, .data], laidTests := true, laidLooks := .later }
def TracerGivesCardSaid : Prop := Claim7.holds Tryd.pinned (.plain (OpenSpec.ofChange tracerGivesSpec)) tracerGivesCard

/-- THE TIED CARD OF 'tarnlaw17.TracerKeeps'. -/
def tracerKeepsCard : Claim7 := { stood := { row := tracerKeepsRow, standIns := [], harness := (true, "c97551f0cd5fdcbd5ed79705f5dbadfdaba6e2ea34cf47eff0f15d8490674765"), looks := false }, kinds := [], alts := [], laidByText := true, laidKinds := [.wider, .data], laidTests := true, laidLooks := .later }
def TracerKeepsCardSaid : Prop := Claim7.holds Tryd.pinned (.plain (OpenSpec.ofChange tracerKeepsSpec)) tracerKeepsCard

/-- THE SECOND FORM's CARD OF 'tarnlaw14.ShareGives'. -/
def shareGivesUptoCard : Claim7 := { stood := { row := shareGivesUptoRow, standIns := [], harness := (true, "c97551f0cd5fdcbd5ed79705f5dbadfdaba6e2ea34cf47eff0f15d8490674765"), looks := false }, kinds := [], alts := [], laidByText := true, laidKinds := [.wider, .data], laidTests := true, laidLooks := .later }
def ShareGivesUptoCardSaid : Prop := Claim7.holds Tryd.pinned (.plain (OpenSpec.upto shareGivesSpec)) shareGivesUptoCard

/-- THE SECOND FORM's CARD OF 'tarnlaw14.ShareKeeps'. -/
def shareKeepsUptoCard : Claim7 := { stood := { row := shareKeepsUptoRow, standIns := [], harness := (true, "c97551f0cd5fdcbd5ed79705f5dbadfdaba6e2ea34cf47eff0f15d8490674765"), looks := false }, kinds := [], alts := [], laidByText := true, laidKinds := [.wider, .data], laidTests := true, laidLooks := .later }
def ShareKeepsUptoCardSaid : Prop := Claim7.holds Tryd.pinned (.plain (OpenSpec.upto shareKeepsSpec)) shareKeepsUptoCard

/-- THE SECOND FORM's CARD OF 'tarnlaw17.TracerGives'. -/
def tracerGivesUptoCard : Claim7 := { stood := { row := tracerGivesUptoRow, standIns := [], harness := (true, "c97551f0cd5fdcbd5ed79705f5dbadfdaba6e2ea34cf47eff0f15d8490674765"), looks := false }, kinds := [], alts := [], laidByText := true, laidKinds := [.wider, .data], laidTests := true, laidLooks := .later }
def TracerGivesUptoCardSaid : Prop := Claim7.holds Tryd.pinned (.plain (OpenSpec.upto tracerGivesSpec)) tracerGivesUptoCard

/-- THE SECOND FORM's CARD OF 'tarnlaw17.TracerKeeps'. -/
def tracerKeepsUptoCard : Claim7 := { stood := { row := tracerKeepsUptoRow, standIns := [], harness := (true, "c97551f0cd5fdcbd5ed79705f5dbadfdaba6e2ea34cf47eff0f15d8490674765"), looks := false }, kinds := [], alts := [], laidByText := true, laidKinds := [.wider, .data], laidTests := true, laidLooks := .later }
def TracerKeepsUptoCardSaid : Prop := Claim7.holds Tryd.pinned (.plain (OpenSpec.upto tracerKeepsSpec)) tracerKeepsUptoCard
end Rows
end Go.Proofs.YtplhligfkbgllaaDoor
