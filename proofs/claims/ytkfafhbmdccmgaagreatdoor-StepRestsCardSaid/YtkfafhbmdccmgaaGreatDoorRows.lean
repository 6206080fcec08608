/-
  NARROWER THAN 'FOR EVERY INPUT', by the rows' own cells (each row's printed sentence says how): StepExact: laid · StepKept: laid · StepParts: laid · StepGives: laid · StepMemory: laid · StepRests: laid · StepTurned: laid.
  DERIVED. THE GIVEN ROWS OF THIS SEAT. 7 by the template 'for every input the law returns true; each argument reads behind the call as it read before'; 0 by the template 'total and deterministic' (their statements: YtkfafhbmdccmgaaGreatDoorTotals.lean).
  GIVEN WITH THE SEED: the statements are not yours to turn. If you find one false, say at which input.
  Laid BY PROGRAM, IN A SANDBOX (cutbox-rows.mjs): the forced cells as the released guide's own fill.sh prints them over the translation f89e001d39bb276b… (all of the seat's roots in one cut). By AI agents, Wed Nov 11 2026. No macro, syntax, notation, axiom, sorry.
-/
import Derived.Test.YtkfafhbmdccmgaaGreatDoorChecked
import GoSem.Claim
import GoSem.ClaimJoined
import GoSem.ClaimMapViews
import Derived.JoinedTies
import Derived.KernelRfl
namespace Go.Proofs.YtkfafhbmdccmgaaGreatDoor
/- THE CELL 'sum', in the pinned program and in every row, IS THE sha256 OF THE DUMP (.gsa) THAT YtkfafhbmdccmgaaGreatDoorProg.lean LOADS. Nothing in Lean hashes anything: it is a label: what it is worth is what the hold of that sum in a sandbox is worth. -/
noncomputable def Tryz.pinned : Pinned := { name := "ytkfafhbmdccmgaagreatdoor", sum := "f89e001d39bb276b8cec4dd7c03eb0dded73d9c5e3abd104fd5470c4c2f0ea28", checked := Tryz.checked }
namespace Rows
def none {H : Type} : Left H := { results := [], args := [] }

/- WHAT THE LISTED PACKAGE-LEVEL VARIABLES READ AS WHEN THE CALL BEGINS. Each datum BY PROGRAM (the guide's laid-datum.mjs) off the statement by which the dump's own 'gosem.cut.vars' lays the variable. In a bare row this is a premise. The card (YtkfafhbmdccmgaaGreatDoorCards.lean) ties it to the program's text. -/
def laid_tarn_cube_frames {H : Type} : DataW H := .agg [.agg [.agg [.lit (.int .i64 1), .lit (.int .i64 0), .lit (.int .i64 0)], .agg [.lit (.int .i64 0), .lit (.int .i64 1), .lit (.int .i64 0)], .agg [.lit (.int .i64 0), .lit (.int .i64 0), .lit (.int .i64 1)]], .agg [.agg [.lit (.int .i64 0), .lit (.int .i64 1), .lit (.int .i64 0)], .agg [.lit (.int .i64 (-1)), .lit (.int .i64 0), .lit (.int .i64 0)], .agg [.lit (.int .i64 0), .lit (.int .i64 0), .lit (.int .i64 1)]], .agg [.agg [.lit (.int .i64 (-1)), .lit (.int .i64 0), .lit (.int .i64 0)], .agg [.lit (.int .i64 0), .lit (.int .i64 (-1)), .lit (.int .i64 0)], .agg [.lit (.int .i64 0), .lit (.int .i64 0), .lit (.int .i64 1)]], .agg [.agg [.lit (.int .i64 0), .lit (.int .i64 (-1)), .lit (.int .i64 0)], .agg [.lit (.int .i64 1), .lit (.int .i64 0), .lit (.int .i64 0)], .agg [.lit (.int .i64 0), .lit (.int .i64 0), .lit (.int .i64 1)]], .agg [.agg [.lit (.int .i64 0), .lit (.int .i64 0), .lit (.int .i64 1)], .agg [.lit (.int .i64 0), .lit (.int .i64 1), .lit (.int .i64 0)], .agg [.lit (.int .i64 (-1)), .lit (.int .i64 0), .lit (.int .i64 0)]], .agg [.agg [.lit (.int .i64 0), .lit (.int .i64 0), .lit (.int .i64 (-1))], .agg [.lit (.int .i64 0), .lit (.int .i64 1), .lit (.int .i64 0)], .agg [.lit (.int .i64 1), .lit (.int .i64 0), .lit (.int .i64 0)]]]
def laid_tarn_geom_frames {H : Type} : DataW H := .agg [.agg [.agg [.lit (.int .i64 1), .lit (.int .i64 0), .lit (.int .i64 0)], .agg [.lit (.int .i64 0), .lit (.int .i64 1), .lit (.int .i64 0)], .agg [.lit (.int .i64 0), .lit (.int .i64 0), .lit (.int .i64 1)]], .agg [.agg [.lit (.int .i64 0), .lit (.int .i64 1), .lit (.int .i64 0)], .agg [.lit (.int .i64 (-1)), .lit (.int .i64 0), .lit (.int .i64 0)], .agg [.lit (.int .i64 0), .lit (.int .i64 0), .lit (.int .i64 1)]], .agg [.agg [.lit (.int .i64 (-1)), .lit (.int .i64 0), .lit (.int .i64 0)], .agg [.lit (.int .i64 0), .lit (.int .i64 (-1)), .lit (.int .i64 0)], .agg [.lit (.int .i64 0), .lit (.int .i64 0), .lit (.int .i64 1)]], .agg [.agg [.lit (.int .i64 0), .lit (.int .i64 (-1)), .lit (.int .i64 0)], .agg [.lit (.int .i64 1), .lit (.int .i64 0), .lit (.int .i64 0)], .agg [.lit (.int .i64 0), .lit (.int .i64 0), .lit (.int .i64 1)]], .agg [.agg [.lit (.int .i64 0), .lit (.int .i64 0), .lit (.int .i64 1)], .agg [.lit (.int .i64 0), .lit (.int .i64 1), .lit (.int .i64 0)], .agg [.lit (.int .i64 (-1)), .lit (.int .i64 0), .lit (.int .i64 0)]], .agg [.agg [.lit (.int .i64 0), .lit (.int .i64 0), .lit (.int .i64 (-1))], .agg [.lit (.int .i64 0), .lit (.int .i64 1), .lit (.int .i64 0)], .agg [.lit (.int .i64 1), .lit (.int .i64 0), .lit (.int .i64 0)]]]

/-- 'tarnlaw21.StepExact': WHATEVER THE INPUT: true; the input reads as it did. -/
def stepExactSpec : ChangeSpec := { name := "stepExact", fn := fun _ => fun
  | [d1, d2, d3] => { results := [.lit (.bool true)], args := [d1, d2, d3] }
  | _ => none }
def stepExactRow : OpenClaim := { program := "ytkfafhbmdccmgaagreatdoor", sum := "f89e001d39bb276b8cec4dd7c03eb0dded73d9c5e3abd104fd5470c4c2f0ea28", func := "tarn/tarnlaw21.StepExact", spec := "stepExact", inPlace := ["math.Float64frombits", "math.Float64bits", "math.sqrt", "math.archFloor", "math.archTrunc", "math/bits.Add64", "math/bits.Sub64"], unfollowed := true, recurses := true, named := ["tarn/cube.frames", "tarn/geom.frames", "math/bits.divideError", "math/bits.overflowError"], plainKeys := false, apart := false, laid := [("tarn/cube.frames", laid_tarn_cube_frames), ("tarn/geom.frames", laid_tarn_geom_frames)] }
def StepExactSaid : Prop := stepExactRow.holds Tryz.pinned (OpenSpec.ofChange stepExactSpec)

/-- ITS FALSE NEIGHBOUR: 'it returns false'. Refute it at one input. -/
def stepExactWrong : ChangeSpec := { name := "stepExact", fn := fun _ => fun
  | [d1, d2, d3] => { results := [.lit (.bool false)], args := [d1, d2, d3] }
  | _ => none }
def StepExactWrongFalsely : Prop := stepExactRow.holds Tryz.pinned (OpenSpec.ofChange stepExactWrong)

/-- 'tarnlaw21.StepKept': WHATEVER THE INPUT: true; the input reads as it did. -/
def stepKeptSpec : ChangeSpec := { name := "stepKept", fn := fun _ => fun
  | [d1, d2] => { results := [.lit (.bool true)], args := [d1, d2] }
  | _ => none }
def stepKeptRow : OpenClaim := { program := "ytkfafhbmdccmgaagreatdoor", sum := "f89e001d39bb276b8cec4dd7c03eb0dded73d9c5e3abd104fd5470c4c2f0ea28", func := "tarn/tarnlaw21.StepKept", spec := "stepKept", inPlace := ["math.Float64frombits", "math.Float64bits", "math.sqrt", "math.archFloor", "math.archTrunc", "math/bits.Add64", "math/bits.Sub64"], unfollowed := true, recurses := true, named := ["tarn/cube.frames", "tarn/geom.frames", "math/bits.divideError", "math/bits.overflowError"], plainKeys := false, apart := false, laid := [("tarn/cube.frames", laid_tarn_cube_frames), ("tarn/geom.frames", laid_tarn_geom_frames)] }
def StepKeptSaid : Prop := stepKeptRow.holds Tryz.pinned (OpenSpec.ofChange stepKeptSpec)

/-- ITS FALSE NEIGHBOUR: 'it returns false'. Refute it at one input. -/
def stepKeptWrong : ChangeSpec := { name := "stepKept", fn := fun _ => fun
  | [d1, d2] => { results := [.lit (.bool false)], args := [d1, d2] }
  | _ => none }
def StepKeptWrongFalsely : Prop := stepKeptRow.holds Tryz.pinned (OpenSpec.ofChange stepKeptWrong)

/-- 'tarnlaw21.StepParts': WHATEVER THE INPUT: true; the input reads as it did. -/
def stepPartsSpec : ChangeSpec := { name := "stepParts", fn := fun _ => fun
  | [d1, d2] => { results := [.lit (.bool true)], args := [d1, d2] }
  | _ => none }
def stepPartsRow : OpenClaim := { program := "ytkfafhbmdccmgaagreatdoor", sum := "f89e001d39bb276b8cec4dd7c03eb0dded73d9c5e3abd104fd5470c4c2f0ea28", func := "tarn/tarnlaw21.StepParts", spec := "stepParts", inPlace := ["math.Float64frombits", "math.Float64bits", "math.sqrt", "math.archFloor", "math.archTrunc", "math/bits.Add64", "math/bits.Sub64"], unfollowed := true, recurses := true, named := ["tarn/cube.frames", "tarn/geom.frames", "math/bits.divideError", "math/bits.overflowError"], plainKeys := false, apart := false, laid := [("tarn/cube.frames", laid_tarn_cube_frames), ("tarn/geom.frames", laid_tarn_geom_frames)] }
def StepPartsSaid : Prop := stepPartsRow.holds Tryz.pinned (OpenSpec.ofChange stepPartsSpec)

/-- ITS FALSE NEIGHBOUR: 'it returns false'. Refute it at one input. -/
def stepPartsWrong : ChangeSpec := { name := "stepParts", fn := fun _ => fun
  | [d1, d2] => { results := [.lit (.bool false)], args := [d1, d2] }
  | _ => none }
def StepPartsWrongFalsely : Prop := stepPartsRow.holds Tryz.pinned (OpenSpec.ofChange stepPartsWrong)

/-- 'tarnlaw21.StepGives': WHATEVER THE INPUT: true; the input reads as it did. -/
def stepGivesSpec : ChangeSpec := { name := "stepGives", fn := fun _ => fun
  | [d1, d2] => { results := [.lit (.bool true)], args := [d1, d2] }
  | _ => none }
def stepGivesRow : OpenClaim := { program := "ytkfafhbmdccmgaagreatdoor", sum := "f89e001d39bb276b8cec4dd7c03eb0dded73d9c5e3abd104fd5470c4c2f0ea28", func := "tarn/tarnlaw21.StepGives", spec := "stepGives", inPlace := ["math.Float64frombits", "math.Float64bits", "math.sqrt", "math.archFloor", "math.archTrunc", "math/bits.Add64", "math/bits.Sub64"], unfollowed := true, recurses := true, named := ["tarn/cube.frames", "tarn/geom.frames", "math/bits.divideError", "math/bits.overflowError"], plainKeys := false, apart := false, laid := [("tarn/cube.frames", laid_tarn_cube_frames), ("tarn/geom.frames", laid_tarn_geom_frames)] }
def StepGivesSaid : Prop := stepGivesRow.holds Tryz.pinned (OpenSpec.ofChange stepGivesSpec)

/-- ITS FALSE NEIGHBOUR: 'it returns false'. Refute it at one input. -/
def stepGivesWrong : ChangeSpec := { name := "stepGives", fn := fun _ => fun
  | [d1, d2] => { results := [.lit (.bool false)], args := [d1, d2] }
  | _ => none }
def StepGivesWrongFalsely : Prop := stepGivesRow.holds Tryz.pinned (OpenSpec.ofChange stepGivesWrong)

/-- 'tarnlaw21.StepMemory': WHATEVER THE INPUT: true; the input reads as it did. -/
def stepMemorySpec : ChangeSpec := { name := "stepMemory", fn := fun _ => fun
  | [d1, d2] => { results := [.lit (.bool true)], args := [d1, d2] }
  | _ => none }
def stepMemoryRow : OpenClaim := { program := "ytkfafhbmdccmgaagreatdoor", sum := "f89e001d39bb276b8cec4dd7c03eb0dded73d9c5e3abd104fd5470c4c2f0ea28", func := "tarn/tarnlaw21.StepMemory", spec := "stepMemory", inPlace := ["math.Float64frombits", "math.Float64bits", "math.sqrt", "math.archFloor", "math.archTrunc", "math/bits.Add64", "math/bits.Sub64"], unfollowed := true, recurses := true, named := ["tarn/cube.frames", "tarn/geom.frames", "math/bits.divideError", "math/bits.overflowError"], plainKeys := false, apart := false, laid := [("tarn/cube.frames", laid_tarn_cube_frames), ("tarn/geom.frames", laid_tarn_geom_frames)] }
def StepMemorySaid : Prop := stepMemoryRow.holds Tryz.pinned (OpenSpec.ofChange stepMemorySpec)

/-- ITS FALSE NEIGHBOUR: 'it returns false'. Refute it at one input. -/
def stepMemoryWrong : ChangeSpec := { name := "stepMemory", fn := fun _ => fun
  | [d1, d2] => { results := [.lit (.bool false)], args := [d1, d2] }
  | _ => none }
def StepMemoryWrongFalsely : Prop := stepMemoryRow.holds Tryz.pinned (OpenSpec.ofChange stepMemoryWrong)

/-- 'tarnlaw21.StepRests': WHATEVER THE INPUT: true; the input reads as it did. -/
def stepRestsSpec : ChangeSpec := { name := "stepRests", fn := fun _ => fun
  | [d1, d2, d3] => { results := [.lit (.bool true)], args := [d1, d2, d3] }
  | _ => none }
def stepRestsRow : OpenClaim := { program := "ytkfafhbmdccmgaagreatdoor", sum := "f89e001d39bb276b8cec4dd7c03eb0dded73d9c5e3abd104fd5470c4c2f0ea28", func := "tarn/tarnlaw21.StepRests", spec := "stepRests", inPlace := ["math.Float64frombits", "math.Float64bits", "math.sqrt", "math.archFloor", "math.archTrunc", "math/bits.Add64", "math/bits.Sub64"], unfollowed := true, recurses := true, named := ["tarn/cube.frames", "tarn/geom.frames", "math/bits.divideError", "math/bits.overflowError"], plainKeys := false, apart := false, laid := [("tarn/cube.frames", laid_tarn_cube_frames), ("tarn/geom.frames", laid_tarn_geom_frames)] }
def StepRestsSaid : Prop := stepRestsRow.holds Tryz.pinned (OpenSpec.ofChange stepRestsSpec)

/-- ITS FALSE NEIGHBOUR: 'it returns false'. Refute it at one input. -/
def stepRestsWrong : ChangeSpec := { name := "stepRests", fn := fun _ => fun
  | [d1, d2, d3] => { results := [.lit (.bool false)], args := [d1, d2, d3] }
  | _ => none }
def StepRestsWrongFalsely : Prop := stepRestsRow.holds Tryz.pinned (OpenSpec.ofChange stepRestsWrong)

/-- 'tarnlaw21.StepTurned': WHATEVER THE INPUT: true; the input reads as it did. -/
def stepTurnedSpec : ChangeSpec := { name := "stepTurned", fn := fun _ => fun
  | [d1, d2, d3] => { results := [.lit (.bool true)], args := [d1, d2, d3] }
  | _ => none }
def stepTurnedRow : OpenClaim := { program := "ytkfafhbmdccmgaagreatdoor", sum := "f89e001d39bb276b8cec4dd7c03eb0dded73d9c5e3abd104fd5470c4c2f0ea28", func := "tarn/tarnlaw21.StepTurned", spec := "stepTurned", inPlace := ["math.Float64frombits", "math.Float64bits", "math.sqrt", "math.archFloor", "math.archTrunc", "math/bits.Add64", "math/bits.Sub64"], unfollowed := true, recurses := true, named := ["tarn/cube.frames", "tarn/geom.frames", "math/bits.divideError", "math/bits.overflowError"], plainKeys := false, apart := false, laid := [("tarn/cube.frames", laid_tarn_cube_frames), ("tarn/geom.frames", laid_tarn_geom_frames)] }
def StepTurnedSaid : Prop := stepTurnedRow.holds Tryz.pinned (OpenSpec.ofChange stepTurnedSpec)

/-- ITS FALSE NEIGHBOUR: 'it returns false'. Refute it at one input. -/
def stepTurnedWrong : ChangeSpec := { name := "stepTurned", fn := fun _ => fun
  | [d1, d2, d3] => { results := [.lit (.bool false)], args := [d1, d2, d3] }
  | _ => none }
def StepTurnedWrongFalsely : Prop := stepTurnedRow.holds Tryz.pinned (OpenSpec.ofChange stepTurnedWrong)

/- THE SECOND FORM. 'bulk': how many values and letters a reading holds, each counted each time it is reached (what is shared counts as often as it is met; a slice's spare places count too). A statement '..UptoSaid' is the law's where the arguments, and the package variables that the reading takes, are together of bulk at most 1048576: NARROWER than '..Said'. Prove '..Said' where nothing that the law and all that it calls make is longer than what came in: it says more and counts as full. Else prove '..UptoSaid'. A law counts once. -/
mutual
def uptoBulk {H : Type} : DataW H → Nat
  | .lit (.string bytes) => bytes.length + 1
  | .lit _ => 1
  | .nil => 1
  | .ptr d => uptoBulk d + 1
  | .slice elems spare => uptoBulkAll elems + uptoBulkAll spare + 1
  | .agg parts => uptoBulkAll parts + 1
  | .iface _ d => uptoBulk d + 1
  | .map entries => uptoBulkEntries entries + 1
  | .held _ => 1
def uptoBulkAll {H : Type} : List (DataW H) → Nat
  | [] => 0
  | d :: r => uptoBulk d + uptoBulkAll r
def uptoBulkEntries {H : Type} : List (Lit × DataW H) → Nat
  | [] => 0
  | x :: r => uptoBulkEntry x + uptoBulkEntries r
def uptoBulkEntry {H : Type} : Lit × DataW H → Nat
  | (.string bytes, d) => bytes.length + uptoBulk d + 1
  | (_, d) => uptoBulk d + 1
 end
def uptoSmall : (H : Type) → List (DataW H) → Bool := fun _ ds => decide (uptoBulkAll ds ≤ 1048576)
def OpenSpec.upto (s : _root_.Go.ChangeSpec) : _root_.Go.OpenSpec := { _root_.Go.OpenSpec.ofChange s with cond := some uptoSmall }

/-- 'tarnlaw21.StepExact', WHERE WHAT IT READS IS OF BULK AT MOST 1048576: true; the input reads as it did. -/
def stepExactUptoRow : OpenClaim := { program := "ytkfafhbmdccmgaagreatdoor", sum := "f89e001d39bb276b8cec4dd7c03eb0dded73d9c5e3abd104fd5470c4c2f0ea28", func := "tarn/tarnlaw21.StepExact", spec := "stepExact", inPlace := ["math.Float64frombits", "math.Float64bits", "math.sqrt", "math.archFloor", "math.archTrunc", "math/bits.Add64", "math/bits.Sub64"], unfollowed := true, recurses := true, named := ["tarn/cube.frames", "tarn/geom.frames", "math/bits.divideError", "math/bits.overflowError"], plainKeys := false, apart := false, laid := [("tarn/cube.frames", laid_tarn_cube_frames), ("tarn/geom.frames", laid_tarn_geom_frames)], narrowed := true }
def StepExactUptoSaid : Prop := stepExactUptoRow.holds Tryz.pinned (OpenSpec.upto stepExactSpec)

/-- 'tarnlaw21.StepKept', WHERE WHAT IT READS IS OF BULK AT MOST 1048576: true; the input reads as it did. -/
def stepKeptUptoRow : OpenClaim := { program := "ytkfafhbmdccmgaagreatdoor", sum := "f89e001d39bb276b8cec4dd7c03eb0dded73d9c5e3abd104fd5470c4c2f0ea28", func := "tarn/tarnlaw21.StepKept", spec := "stepKept", inPlace := ["math.Float64frombits", "math.Float64bits", "math.sqrt", "math.archFloor", "math.archTrunc", "math/bits.Add64", "math/bits.Sub64"], unfollowed := true, recurses := true, named := ["tarn/cube.frames", "tarn/geom.frames", "math/bits.divideError", "math/bits.overflowError"], plainKeys := false, apart := false, laid := [("tarn/cube.frames", laid_tarn_cube_frames), ("tarn/geom.frames", laid_tarn_geom_frames)], narrowed := true }
def StepKeptUptoSaid : Prop := stepKeptUptoRow.holds Tryz.pinned (OpenSpec.upto stepKeptSpec)

/-- 'tarnlaw21.StepParts', WHERE WHAT IT READS IS OF BULK AT MOST 1048576: true; the input reads as it did. -/
def stepPartsUptoRow : OpenClaim := { program := "ytkfafhbmdccmgaagreatdoor", sum := "f89e001d39bb276b8cec4dd7c03eb0dded73d9c5e3abd104fd5470c4c2f0ea28", func := "tarn/tarnlaw21.StepParts", spec := "stepParts", inPlace := ["math.Float64frombits", "math.Float64bits", "math.sqrt", "math.archFloor", "math.archTrunc", "math/bits.Add64", "math/bits.Sub64"], unfollowed := true, recurses := true, named := ["tarn/cube.frames", "tarn/geom.frames", "math/bits.divideError", "math/bits.overflowError"], plainKeys := false, apart := false, laid := [("tarn/cube.frames", laid_tarn_cube_frames), ("tarn/geom.frames", laid_tarn_geom_frames)], narrowed := true }
def StepPartsUptoSaid : Prop := stepPartsUptoRow.holds Tryz.pinned (OpenSpec.upto stepPartsSpec)

/-- 'tarnlaw21.StepGives', WHERE WHAT IT READS IS OF BULK AT MOST 1048576: true; the input reads as it did. -/
def stepGivesUptoRow : OpenClaim := { program := "ytkfafhbmdccmgaagreatdoor", sum := "f89e001d39bb276b8cec4dd7c03eb0dded73d9c5e3abd104fd5470c4c2f0ea28", func := "tarn/tarnlaw21.StepGives", spec := "stepGives", inPlace := ["math.Float64frombits", "math.Float64bits", "math.sqrt", "math.archFloor", "math.archTrunc", "math/bits.Add64", "math/bits.Sub64"], unfollowed := true, recurses := true, named := ["tarn/cube.frames", "tarn/geom.frames", "math/bits.divideError", "math/bits.overflowError"], plainKeys := false, apart := false, laid := [("tarn/cube.frames", laid_tarn_cube_frames), ("tarn/geom.frames", laid_tarn_geom_frames)], narrowed := true }
def StepGivesUptoSaid : Prop := stepGivesUptoRow.holds Tryz.pinned (OpenSpec.upto stepGivesSpec)

/-- 'tarnlaw21.StepMemory', WHERE WHAT IT READS IS OF BULK AT MOST 1048576: true; the input reads as it did. -/
def stepMemoryUptoRow : OpenClaim := { program := "ytkfafhbmdccmgaagreatdoor", sum := "f89e001d39bb276b8cec4dd7c03eb0dded73d9c5e3abd104fd5470c4c2f0ea28", func := "tarn/tarnlaw21.StepMemory", spec := "stepMemory", inPlace := ["math.Float64frombits", "math.Float64bits", "math.sqrt", "math.archFloor", "math.archTrunc", "math/bits.Add64", "math/bits.Sub64"], unfollowed := true, recurses := true, named := ["tarn/cube.frames", "tarn/geom.frames", "math/bits.divideError", "math/bits.overflowError"], plainKeys := false, apart := false, laid := [("tarn/cube.frames", laid_tarn_cube_frames), ("tarn/geom.frames", laid_tarn_geom_frames)], narrowed := true }
def StepMemoryUptoSaid : Prop := stepMemoryUptoRow.holds Tryz.pinned (OpenSpec.upto stepMemorySpec)

/-- 'tarnlaw21.StepRests', WHERE WHAT IT READS IS OF BULK AT MOST 1048576: true; the input reads as it did. -/
def stepRestsUptoRow : OpenClaim := { program := "ytkfafhbmdccmgaagreatdoor", sum := "f89e001d39bb276b8cec4dd7c03eb0dded73d9c5e3abd104fd5470c4c2f0ea28", func := "tarn/tarnlaw21.StepRests", spec := "stepRests", inPlace := ["math.Float64frombits", "math.Float64bits", "math.sqrt", "math.archFloor", "math.archTrunc", "math/bits.Add64", "math/bits.Sub64"], unfollowed := true, recurses := true, named := ["tarn/cube.frames", "tarn/geom.frames", "math/bits.divideError", "math/bits.overflowError"], plainKeys := false, apart := false, laid := [("tarn/cube.frames", laid_tarn_cube_frames), ("tarn/geom.frames", laid_tarn_geom_frames)], narrowed := true }
def StepRestsUptoSaid : Prop := stepRestsUptoRow.holds Tryz.pinned (OpenSpec.upto stepRestsSpec)

/-- 'tarnlaw21.StepTurned', WHERE WHAT IT READS IS OF BULK AT MOST 1048576: true; the input reads as it did. -/
def stepTurnedUptoRow : OpenClaim := { program := "ytkfafhbmdccmgaagreatdoor", sum := "f89e001d39bb276b8cec4dd7c03eb0dded73d9c5e3abd104fd5470c4c2f0ea28", func := "tarn/tarnlaw21.StepTurned", spec := "stepTurned", inPlace := ["math.Float64frombits", "math.Float64bits", "math.sqrt", "math.archFloor", "math.archTrunc", "math/bits.Add64", "math/bits.Sub64"], unfollowed := true, recurses := true, named := ["tarn/cube.frames", "tarn/geom.frames", "math/bits.divideError", "math/bits.overflowError"], plainKeys := false, apart := false, laid := [("tarn/cube.frames", laid_tarn_cube_frames), ("tarn/geom.frames", laid_tarn_geom_frames)], narrowed := true }
def StepTurnedUptoSaid : Prop := stepTurnedUptoRow.holds Tryz.pinned (OpenSpec.upto stepTurnedSpec)

end Rows
end Go.Proofs.YtkfafhbmdccmgaaGreatDoor
