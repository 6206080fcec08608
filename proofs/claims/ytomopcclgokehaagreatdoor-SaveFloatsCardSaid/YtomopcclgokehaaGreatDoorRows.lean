/-
  NARROWER THAN 'FOR EVERY INPUT', by the rows' own cells (each row's printed sentence says how): TileSeas: laid · SaveEncodes: laid · SaveDecodes: laid · SaveBack: laid · SaveForth: laid · SaveTurned: laid · SaveSum: laid · SaveFloats: laid · SaveKeeps: laid.
  DERIVED. THE GIVEN ROWS OF THIS SEAT. 9 by the template 'for every input the law returns true; each argument reads behind the call as it read before'; 0 by the template 'total and deterministic' (their statements: YtomopcclgokehaaGreatDoorTotals.lean).
  GIVEN WITH THE SEED: the statements are not yours to turn. If you find one false, say at which input.
  Laid BY PROGRAM, IN A SANDBOX (cutbox-rows.mjs): the forced cells as the released guide's own fill.sh prints them over the translation c06993bb66a9020c… (all of the seat's roots in one cut). By AI agents, Wed Nov 11 2026. No macro, syntax, notation, axiom, sorry.
-/
import Derived.Test.YtomopcclgokehaaGreatDoorChecked
import GoSem.Claim
import GoSem.ClaimJoined
import GoSem.ClaimMapViews
import Derived.JoinedTies
import Derived.KernelRfl
namespace Go.Proofs.YtomopcclgokehaaGreatDoor
/- THE CELL 'sum', in the pinned program and in every row, IS THE sha256 OF THE DUMP (.gsa) THAT YtomopcclgokehaaGreatDoorProg.lean LOADS. Nothing in Lean hashes anything: it is a label: what it is worth is what the hold of that sum in a sandbox is worth. -/
noncomputable def Tryz.pinned : Pinned := { name := "ytomopcclgokehaagreatdoor", sum := "c06993bb66a9020cd7ab575fe14de81f12639fd8d45b3239198a1958160057d2", checked := Tryz.checked }
namespace Rows
def none {H : Type} : Left H := { results := [], args := [] }

/- WHAT THE LISTED PACKAGE-LEVEL VARIABLES READ AS WHEN THE CALL BEGINS. Each datum BY PROGRAM (the guide's laid-datum.mjs) off the statement by which the dump's own 'gosem.cut.vars' lays the variable. In a bare row this is a premise. The card (YtomopcclgokehaaGreatDoorCards.lean) ties it to the program's text. -/
def laid_tarn_geom_frames {H : Type} : DataW H := .agg [.agg [.agg [.lit (.int .i64 1), .lit (.int .i64 0), .lit (.int .i64 0)], .agg [.lit (.int .i64 0), .lit (.int .i64 1), .lit (.int .i64 0)], .agg [.lit (.int .i64 0), .lit (.int .i64 0), .lit (.int .i64 1)]], .agg [.agg [.lit (.int .i64 0), .lit (.int .i64 1), .lit (.int .i64 0)], .agg [.lit (.int .i64 (-1)), .lit (.int .i64 0), .lit (.int .i64 0)], .agg [.lit (.int .i64 0), .lit (.int .i64 0), .lit (.int .i64 1)]], .agg [.agg [.lit (.int .i64 (-1)), .lit (.int .i64 0), .lit (.int .i64 0)], .agg [.lit (.int .i64 0), .lit (.int .i64 (-1)), .lit (.int .i64 0)], .agg [.lit (.int .i64 0), .lit (.int .i64 0), .lit (.int .i64 1)]], .agg [.agg [.lit (.int .i64 0), .lit (.int .i64 (-1)), .lit (.int .i64 0)], .agg [.lit (.int .i64 1), .lit (.int .i64 0), .lit (.int .i64 0)], .agg [.lit (.int .i64 0), .lit (.int .i64 0), .lit (.int .i64 1)]], .agg [.agg [.lit (.int .i64 0), .lit (.int .i64 0), .lit (.int .i64 1)], .agg [.lit (.int .i64 0), .lit (.int .i64 1), .lit (.int .i64 0)], .agg [.lit (.int .i64 (-1)), .lit (.int .i64 0), .lit (.int .i64 0)]], .agg [.agg [.lit (.int .i64 0), .lit (.int .i64 0), .lit (.int .i64 (-1))], .agg [.lit (.int .i64 0), .lit (.int .i64 1), .lit (.int .i64 0)], .agg [.lit (.int .i64 1), .lit (.int .i64 0), .lit (.int .i64 0)]]]
def laid_tarn_cube_frames {H : Type} : DataW H := .agg [.agg [.agg [.lit (.int .i64 1), .lit (.int .i64 0), .lit (.int .i64 0)], .agg [.lit (.int .i64 0), .lit (.int .i64 1), .lit (.int .i64 0)], .agg [.lit (.int .i64 0), .lit (.int .i64 0), .lit (.int .i64 1)]], .agg [.agg [.lit (.int .i64 0), .lit (.int .i64 1), .lit (.int .i64 0)], .agg [.lit (.int .i64 (-1)), .lit (.int .i64 0), .lit (.int .i64 0)], .agg [.lit (.int .i64 0), .lit (.int .i64 0), .lit (.int .i64 1)]], .agg [.agg [.lit (.int .i64 (-1)), .lit (.int .i64 0), .lit (.int .i64 0)], .agg [.lit (.int .i64 0), .lit (.int .i64 (-1)), .lit (.int .i64 0)], .agg [.lit (.int .i64 0), .lit (.int .i64 0), .lit (.int .i64 1)]], .agg [.agg [.lit (.int .i64 0), .lit (.int .i64 (-1)), .lit (.int .i64 0)], .agg [.lit (.int .i64 1), .lit (.int .i64 0), .lit (.int .i64 0)], .agg [.lit (.int .i64 0), .lit (.int .i64 0), .lit (.int .i64 1)]], .agg [.agg [.lit (.int .i64 0), .lit (.int .i64 0), .lit (.int .i64 1)], .agg [.lit (.int .i64 0), .lit (.int .i64 1), .lit (.int .i64 0)], .agg [.lit (.int .i64 (-1)), .lit (.int .i64 0), .lit (.int .i64 0)]], .agg [.agg [.lit (.int .i64 0), .lit (.int .i64 0), .lit (.int .i64 (-1))], .agg [.lit (.int .i64 0), .lit (.int .i64 1), .lit (.int .i64 0)], .agg [.lit (.int .i64 1), .lit (.int .i64 0), .lit (.int .i64 0)]]]

/-- 'tarnlaw24.TileSeas': WHATEVER THE INPUT: true; the input reads as it did. -/
def tileSeasSpec : ChangeSpec := { name := "tileSeas", fn := fun _ => fun
  | [d1, d2] => { results := [.lit (.bool true)], args := [d1, d2] }
  | _ => none }
def tileSeasRow : OpenClaim := { program := "ytomopcclgokehaagreatdoor", sum := "c06993bb66a9020cd7ab575fe14de81f12639fd8d45b3239198a1958160057d2", func := "tarn/tarnlaw24.TileSeas", spec := "tileSeas", inPlace := ["math.Float64bits", "math.Float64frombits", "math.sqrt", "math.archFloor", "math.archTrunc", "math.Float32bits"], unfollowed := true, recurses := true, named := ["tarn/geom.frames"], plainKeys := false, apart := false, laid := [("tarn/geom.frames", laid_tarn_geom_frames)] }
def TileSeasSaid : Prop := tileSeasRow.holds Tryz.pinned (OpenSpec.ofChange tileSeasSpec)

/-- ITS FALSE NEIGHBOUR: 'it returns false'. Refute it at one input. -/
def tileSeasWrong : ChangeSpec := { name := "tileSeas", fn := fun _ => fun
  | [d1, d2] => { results := [.lit (.bool false)], args := [d1, d2] }
  | _ => none }
def TileSeasWrongFalsely : Prop := tileSeasRow.holds Tryz.pinned (OpenSpec.ofChange tileSeasWrong)

/-- 'tarnlaw25.SaveEncodes': WHATEVER THE INPUT: true; the input reads as it did. -/
def saveEncodesSpec : ChangeSpec := { name := "saveEncodes", fn := fun _ => fun
  | [d1, d2] => { results := [.lit (.bool true)], args := [d1, d2] }
  | _ => none }
def saveEncodesRow : OpenClaim := { program := "ytomopcclgokehaagreatdoor", sum := "c06993bb66a9020cd7ab575fe14de81f12639fd8d45b3239198a1958160057d2", func := "tarn/tarnlaw25.SaveEncodes", spec := "saveEncodes", inPlace := ["math.Float64frombits", "math.Float64bits", "math.sqrt", "math.archFloor", "math.archTrunc"], unfollowed := true, recurses := true, named := ["tarn/cube.frames", "tarn/geom.frames"], plainKeys := false, apart := false, laid := [("tarn/cube.frames", laid_tarn_cube_frames), ("tarn/geom.frames", laid_tarn_geom_frames)] }
def SaveEncodesSaid : Prop := saveEncodesRow.holds Tryz.pinned (OpenSpec.ofChange saveEncodesSpec)

/-- ITS FALSE NEIGHBOUR: 'it returns false'. Refute it at one input. -/
def saveEncodesWrong : ChangeSpec := { name := "saveEncodes", fn := fun _ => fun
  | [d1, d2] => { results := [.lit (.bool false)], args := [d1, d2] }
  | _ => none }
def SaveEncodesWrongFalsely : Prop := saveEncodesRow.holds Tryz.pinned (OpenSpec.ofChange saveEncodesWrong)

/-- 'tarnlaw25.SaveDecodes': WHATEVER THE INPUT: true; the input reads as it did. -/
def saveDecodesSpec : ChangeSpec := { name := "saveDecodes", fn := fun _ => fun
  | [d] => { results := [.lit (.bool true)], args := [d] }
  | _ => none }
def saveDecodesRow : OpenClaim := { program := "ytomopcclgokehaagreatdoor", sum := "c06993bb66a9020cd7ab575fe14de81f12639fd8d45b3239198a1958160057d2", func := "tarn/tarnlaw25.SaveDecodes", spec := "saveDecodes", inPlace := ["math.Float64frombits", "math.Float64bits", "math.sqrt", "math.archFloor", "math.archTrunc"], unfollowed := true, recurses := true, named := ["tarn/cube.frames", "tarn/geom.frames"], plainKeys := false, apart := false, laid := [("tarn/cube.frames", laid_tarn_cube_frames), ("tarn/geom.frames", laid_tarn_geom_frames)] }
def SaveDecodesSaid : Prop := saveDecodesRow.holds Tryz.pinned (OpenSpec.ofChange saveDecodesSpec)

/-- ITS FALSE NEIGHBOUR: 'it returns false'. Refute it at one input. -/
def saveDecodesWrong : ChangeSpec := { name := "saveDecodes", fn := fun _ => fun
  | [d] => { results := [.lit (.bool false)], args := [d] }
  | _ => none }
def SaveDecodesWrongFalsely : Prop := saveDecodesRow.holds Tryz.pinned (OpenSpec.ofChange saveDecodesWrong)

/-- 'tarnlaw25.SaveBack': WHATEVER THE INPUT: true; the input reads as it did. -/
def saveBackSpec : ChangeSpec := { name := "saveBack", fn := fun _ => fun
  | [d1, d2] => { results := [.lit (.bool true)], args := [d1, d2] }
  | _ => none }
def saveBackRow : OpenClaim := { program := "ytomopcclgokehaagreatdoor", sum := "c06993bb66a9020cd7ab575fe14de81f12639fd8d45b3239198a1958160057d2", func := "tarn/tarnlaw25.SaveBack", spec := "saveBack", inPlace := ["math.Float64frombits", "math.Float64bits", "math.sqrt", "math.archFloor", "math.archTrunc"], unfollowed := true, recurses := true, named := ["tarn/cube.frames", "tarn/geom.frames"], plainKeys := false, apart := false, laid := [("tarn/cube.frames", laid_tarn_cube_frames), ("tarn/geom.frames", laid_tarn_geom_frames)] }
def SaveBackSaid : Prop := saveBackRow.holds Tryz.pinned (OpenSpec.ofChange saveBackSpec)

/-- ITS FALSE NEIGHBOUR: 'it returns false'. Refute it at one input. -/
def saveBackWrong : ChangeSpec := { name := "saveBack", fn := fun _ => fun
  | [d1, d2] => { results := [.lit (.bool false)], args := [d1, d2] }
  | _ => none }
def SaveBackWrongFalsely : Prop := saveBackRow.holds Tryz.pinned (OpenSpec.ofChange saveBackWrong)

/-- 'tarnlaw25.SaveForth': WHATEVER THE INPUT: true; the input reads as it did. -/
def saveForthSpec : ChangeSpec := { name := "saveForth", fn := fun _ => fun
  | [d] => { results := [.lit (.bool true)], args := [d] }
  | _ => none }
def saveForthRow : OpenClaim := { program := "ytomopcclgokehaagreatdoor", sum := "c06993bb66a9020cd7ab575fe14de81f12639fd8d45b3239198a1958160057d2", func := "tarn/tarnlaw25.SaveForth", spec := "saveForth", inPlace := ["math.Float64frombits", "math.Float64bits", "math.sqrt", "math.archFloor", "math.archTrunc"], unfollowed := true, recurses := true, named := ["tarn/cube.frames", "tarn/geom.frames"], plainKeys := false, apart := false, laid := [("tarn/cube.frames", laid_tarn_cube_frames), ("tarn/geom.frames", laid_tarn_geom_frames)] }
def SaveForthSaid : Prop := saveForthRow.holds Tryz.pinned (OpenSpec.ofChange saveForthSpec)

/-- ITS FALSE NEIGHBOUR: 'it returns false'. Refute it at one input. -/
def saveForthWrong : ChangeSpec := { name := "saveForth", fn := fun _ => fun
  | [d] => { results := [.lit (.bool false)], args := [d] }
  | _ => none }
def SaveForthWrongFalsely : Prop := saveForthRow.holds Tryz.pinned (OpenSpec.ofChange saveForthWrong)

/-- 'tarnlaw25.SaveTurned': WHATEVER THE INPUT: true; the input reads as it did. -/
def saveTurnedSpec : ChangeSpec := { name := "saveTurned", fn := fun _ => fun
  | [d1, d2, d3, d4, d5, d6] => { results := [.lit (.bool true)], args := [d1, d2, d3, d4, d5, d6] }
  | _ => none }
def saveTurnedRow : OpenClaim := { program := "ytomopcclgokehaagreatdoor", sum := "c06993bb66a9020cd7ab575fe14de81f12639fd8d45b3239198a1958160057d2", func := "tarn/tarnlaw25.SaveTurned", spec := "saveTurned", inPlace := ["math.Float64frombits", "math.Float64bits", "math.sqrt", "math.archFloor", "math.archTrunc"], unfollowed := true, recurses := true, named := ["tarn/cube.frames", "tarn/geom.frames"], plainKeys := false, apart := false, laid := [("tarn/cube.frames", laid_tarn_cube_frames), ("tarn/geom.frames", laid_tarn_geom_frames)] }
def SaveTurnedSaid : Prop := saveTurnedRow.holds Tryz.pinned (OpenSpec.ofChange saveTurnedSpec)

/-- ITS FALSE NEIGHBOUR: 'it returns false'. Refute it at one input. -/
def saveTurnedWrong : ChangeSpec := { name := "saveTurned", fn := fun _ => fun
  | [d1, d2, d3, d4, d5, d6] => { results := [.lit (.bool false)], args := [d1, d2, d3, d4, d5, d6] }
  | _ => none }
def SaveTurnedWrongFalsely : Prop := saveTurnedRow.holds Tryz.pinned (OpenSpec.ofChange saveTurnedWrong)

/-- 'tarnlaw25.SaveSum': WHATEVER THE INPUT: true; the input reads as it did. -/
def saveSumSpec : ChangeSpec := { name := "saveSum", fn := fun _ => fun
  | [d1, d2, d3, d4] => { results := [.lit (.bool true)], args := [d1, d2, d3, d4] }
  | _ => none }
def saveSumRow : OpenClaim := { program := "ytomopcclgokehaagreatdoor", sum := "c06993bb66a9020cd7ab575fe14de81f12639fd8d45b3239198a1958160057d2", func := "tarn/tarnlaw25.SaveSum", spec := "saveSum", inPlace := ["math.Float64frombits", "math.Float64bits", "math.sqrt", "math.archFloor", "math.archTrunc"], unfollowed := true, recurses := true, named := ["tarn/cube.frames", "tarn/geom.frames"], plainKeys := false, apart := false, laid := [("tarn/cube.frames", laid_tarn_cube_frames), ("tarn/geom.frames", laid_tarn_geom_frames)] }
def SaveSumSaid : Prop := saveSumRow.holds Tryz.pinned (OpenSpec.ofChange saveSumSpec)

/-- ITS FALSE NEIGHBOUR: 'it returns false'. Refute it at one input. -/
def saveSumWrong : ChangeSpec := { name := "saveSum", fn := fun _ => fun
  | [d1, d2, d3, d4] => { results := [.lit (.bool false)], args := [d1, d2, d3, d4] }
  | _ => none }
def SaveSumWrongFalsely : Prop := saveSumRow.holds Tryz.pinned (OpenSpec.ofChange saveSumWrong)

/-- 'tarnlaw25.SaveFloats': WHATEVER THE INPUT: true; the input reads as it did. -/
def saveFloatsSpec : ChangeSpec := { name := "saveFloats", fn := fun _ => fun
  | [d1, d2, d3] => { results := [.lit (.bool true)], args := [d1, d2, d3] }
  | _ => none }
def saveFloatsRow : OpenClaim := { program := "ytomopcclgokehaagreatdoor", sum := "c06993bb66a9020cd7ab575fe14de81f12639fd8d45b3239198a1958160057d2", func := "tarn/tarnlaw25.SaveFloats", spec := "saveFloats", inPlace := ["math.Float64frombits", "math.Float64bits", "math.sqrt", "math.archFloor", "math.archTrunc"], unfollowed := true, recurses := true, named := ["tarn/cube.frames", "tarn/geom.frames"], plainKeys := false, apart := false, laid := [("tarn/cube.frames", laid_tarn_cube_frames), ("tarn/geom.frames", laid_tarn_geom_frames)] }
def SaveFloatsSaid : Prop := saveFloatsRow.holds Tryz.pinned (OpenSpec.ofChange saveFloatsSpec)

/-- ITS FALSE NEIGHBOUR: 'it returns false'. Refute it at one input. -/
def saveFloatsWrong : ChangeSpec := { name := "saveFloats", fn := fun _ => fun
  | [d1, d2, d3] => { results := [.lit (.bool false)], args := [d1, d2, d3] }
  | _ => none }
def SaveFloatsWrongFalsely : Prop := saveFloatsRow.holds Tryz.pinned (OpenSpec.ofChange saveFloatsWrong)

/-- 'tarnlaw25.SaveKeeps': WHATEVER THE INPUT: true; the input reads as it did. -/
def saveKeepsSpec : ChangeSpec := { name := "saveKeeps", fn := fun _ => fun
  | [d1, d2] => { results := [.lit (.bool true)], args := [d1, d2] }
  | _ => none }
def saveKeepsRow : OpenClaim := { program := "ytomopcclgokehaagreatdoor", sum := "c06993bb66a9020cd7ab575fe14de81f12639fd8d45b3239198a1958160057d2", func := "tarn/tarnlaw25.SaveKeeps", spec := "saveKeeps", inPlace := ["math.Float64frombits", "math.Float64bits", "math.sqrt", "math.archFloor", "math.archTrunc"], unfollowed := true, recurses := true, named := ["tarn/cube.frames", "tarn/geom.frames"], plainKeys := false, apart := false, laid := [("tarn/cube.frames", laid_tarn_cube_frames), ("tarn/geom.frames", laid_tarn_geom_frames)] }
def SaveKeepsSaid : Prop := saveKeepsRow.holds Tryz.pinned (OpenSpec.ofChange saveKeepsSpec)

/-- ITS FALSE NEIGHBOUR: 'it returns false'. Refute it at one input. -/
def saveKeepsWrong : ChangeSpec := { name := "saveKeeps", fn := fun _ => fun
  | [d1, d2] => { results := [.lit (.bool false)], args := [d1, d2] }
  | _ => none }
def SaveKeepsWrongFalsely : Prop := saveKeepsRow.holds Tryz.pinned (OpenSpec.ofChange saveKeepsWrong)

/- THE SECOND FORM. 'bulk': how many values and letters a reading holds, each counted each time it is reached (what is shared counts as often as it is met; a slice's spare places count too). A statement '..UptoSaid' is the law's where the arguments, and the package variables that the reading takes, are together of bulk at most 1048576: NARROWER than '..Said'. Prove '..Said' where nothing that the law and all that it calls make is longer than what came in: it says more and counts as full. Else prove '..UptoSaid'. A law counts once. -/
mutual
def uptoBulk {H : Type} : DataW H → Nat
  | .lit (.string bytes) => bytes.length + 1
  | .lit _ => 1
  | .nil => 1
  | .ptr d => uptoBulk d + 1
  | .slice elems spare => uptoBulkAll elems + uptoBulkAll spare + 1
  | .agg parts => uptoBulkAll parts + 1
  | .iface _ d => uptoBulk d + 1
  | .map entries => uptoBulkEntries entries + 1
  | .held _ => 1
def uptoBulkAll {H : Type} : List (DataW H) → Nat
  | [] => 0
  | d :: r => uptoBulk d + uptoBulkAll r
def uptoBulkEntries {H : Type} : List (Lit × DataW H) → Nat
  | [] => 0
  | x :: r => uptoBulkEntry x + uptoBulkEntries r
def uptoBulkEntry {H : Type} : Lit × DataW H → Nat
  | (.string bytes, d) => bytes.length + uptoBulk d + 1
  | (_, d) => uptoBulk d + 1
 end
def uptoSmall : (H : Type) → List (DataW H) → Bool := fun _ ds => decide (uptoBulkAll ds ≤ 1048576)
def OpenSpec.upto (s : _root_.Go.ChangeSpec) : _root_.Go.OpenSpec := { _root_.Go.OpenSpec.ofChange s with cond := some uptoSmall }

/-- 'tarnlaw24.TileSeas', WHERE WHAT IT READS IS OF BULK AT MOST 1048576: true; the input reads as it did. -/
def tileSeasUptoRow : OpenClaim := { program := "ytomopcclgokehaagreatdoor", sum := "c06993bb66a9020cd7ab575fe14de81f12639fd8d45b3239198a1958160057d2", func := "tarn/tarnlaw24.TileSeas", spec := "tileSeas", inPlace := ["math.Float64bits", "math.Float64frombits", "math.sqrt", "math.archFloor", "math.archTrunc", "math.Float32bits"], unfollowed := true, recurses := true, named := ["tarn/geom.frames"], plainKeys := false, apart := false, laid := [("tarn/geom.frames", laid_tarn_geom_frames)], narrowed := true }
def TileSeasUptoSaid : Prop := tileSeasUptoRow.holds Tryz.pinned (OpenSpec.upto tileSeasSpec)

/-- 'tarnlaw25.SaveEncodes', WHERE WHAT IT READS IS OF BULK AT MOST 1048576: true; the input reads as it did. -/
def saveEncodesUptoRow : OpenClaim := { program := "ytomopcclgokehaagreatdoor", sum := "c06993bb66a9020cd7ab575fe14de81f12639fd8d45b3239198a1958160057d2", func := "tarn/tarnlaw25.SaveEncodes", spec := "saveEncodes", inPlace := ["math.Float64frombits", "math.Float64bits", "math.sqrt", "math.archFloor", "math.archTrunc"], unfollowed := true, recurses := true, named := ["tarn/cube.frames", "tarn/geom.frames"], plainKeys := false, apart := false, laid := [("tarn/cube.frames", laid_tarn_cube_frames), ("tarn/geom.frames", laid_tarn_geom_frames)], narrowed := true }
def SaveEncodesUptoSaid : Prop := saveEncodesUptoRow.holds Tryz.pinned (OpenSpec.upto saveEncodesSpec)

/-- 'tarnlaw25.SaveDecodes', WHERE WHAT IT READS IS OF BULK AT MOST 1048576: true; the input reads as it did. -/
def saveDecodesUptoRow : OpenClaim := { program := "ytomopcclgokehaagreatdoor", sum := "c06993bb66a9020cd7ab575fe14de81f12639fd8d45b3239198a1958160057d2", func := "tarn/tarnlaw25.SaveDecodes", spec := "saveDecodes", inPlace := ["math.Float64frombits", "math.Float64bits", "math.sqrt", "math.archFloor", "math.archTrunc"], unfollowed := true, recurses := true, named := ["tarn/cube.frames", "tarn/geom.frames"], plainKeys := false, apart := false, laid := [("tarn/cube.frames", laid_tarn_cube_frames), ("tarn/geom.frames", laid_tarn_geom_frames)], narrowed := true }
def SaveDecodesUptoSaid : Prop := saveDecodesUptoRow.holds Tryz.pinned (OpenSpec.upto saveDecodesSpec)

/-- 'tarnlaw25.SaveBack', WHERE WHAT IT READS IS OF BULK AT MOST 1048576: true; the input reads as it did. -/
def saveBackUptoRow : OpenClaim := { program := "ytomopcclgokehaagreatdoor", sum := "c06993bb66a9020cd7ab575fe14de81f12639fd8d45b3239198a1958160057d2", func := "tarn/tarnlaw25.SaveBack", spec := "saveBack", inPlace := ["math.Float64frombits", "math.Float64bits", "math.sqrt", "math.archFloor", "math.archTrunc"], unfollowed := true, recurses := true, named := ["tarn/cube.frames", "tarn/geom.frames"], plainKeys := false, apart := false, laid := [("tarn/cube.frames", laid_tarn_cube_frames), ("tarn/geom.frames", laid_tarn_geom_frames)], narrowed := true }
def SaveBackUptoSaid : Prop := saveBackUptoRow.holds Tryz.pinned (OpenSpec.upto saveBackSpec)

/-- 'tarnlaw25.SaveForth', WHERE WHAT IT READS IS OF BULK AT MOST 1048576: true; the input reads as it did. -/
def saveForthUptoRow : OpenClaim := { program := "ytomopcclgokehaagreatdoor", sum := "c06993bb66a9020cd7ab575fe14de81f12639fd8d45b3239198a1958160057d2", func := "tarn/tarnlaw25.SaveForth", spec := "saveForth", inPlace := ["math.Float64frombits", "math.Float64bits", "math.sqrt", "math.archFloor", "math.archTrunc"], unfollowed := true, recurses := true, named := ["tarn/cube.frames", "tarn/geom.frames"], plainKeys := false, apart := false, laid := [("tarn/cube.frames", laid_tarn_cube_frames), ("tarn/geom.frames", laid_tarn_geom_frames)], narrowed := true }
def SaveForthUptoSaid : Prop := saveForthUptoRow.holds Tryz.pinned (OpenSpec.upto saveForthSpec)

/-- 'tarnlaw25.SaveTurned', WHERE WHAT IT READS IS OF BULK AT MOST 1048576: true; the input reads as it did. -/
def saveTurnedUptoRow : OpenClaim := { program := "ytomopcclgokehaagreatdoor", sum := "c06993bb66a9020cd7ab575fe14de81f12639fd8d45b3239198a1958160057d2", func := "tarn/tarnlaw25.SaveTurned", spec := "saveTurned", inPlace := ["math.Float64frombits", "math.Float64bits", "math.sqrt", "math.archFloor", "math.archTrunc"], unfollowed := true, recurses := true, named := ["tarn/cube.frames", "tarn/geom.frames"], plainKeys := false, apart := false, laid := [("tarn/cube.frames", laid_tarn_cube_frames), ("tarn/geom.frames", laid_tarn_geom_frames)], narrowed := true }
def SaveTurnedUptoSaid : Prop := saveTurnedUptoRow.holds Tryz.pinned (OpenSpec.upto saveTurnedSpec)

/-- 'tarnlaw25.SaveSum', WHERE WHAT IT READS IS OF BULK AT MOST 1048576: true; the input reads as it did. -/
def saveSumUptoRow : OpenClaim := { program := "ytomopcclgokehaagreatdoor", sum := "c06993bb66a9020cd7ab575fe14de81f12639fd8d45b3239198a1958160057d2", func := "tarn/tarnlaw25.SaveSum", spec := "saveSum", inPlace := ["math.Float64frombits", "math.Float64bits", "math.sqrt", "math.archFloor", "math.archTrunc"], unfollowed := true, recurses := true, named := ["tarn/cube.frames", "tarn/geom.frames"], plainKeys := false, apart := false, laid := [("tarn/cube.frames", laid_tarn_cube_frames), ("tarn/geom.frames", laid_tarn_geom_frames)], narrowed := true }
def SaveSumUptoSaid : Prop := saveSumUptoRow.holds Tryz.pinned (OpenSpec.upto saveSumSpec)

/-- 'tarnlaw25.SaveFloats', WHERE WHAT IT READS IS OF BULK AT MOST 1048576: true; the input reads as it did. -/
def saveFloatsUptoRow : OpenClaim := { program := "ytomopcclgokehaagreatdoor", sum := "c06993bb66a9020cd7ab575fe14de81f12639fd8d45b3239198a1958160057d2", func := "tarn/tarnlaw25.SaveFloats", spec := "saveFloats", inPlace := ["math.Float64frombits", "math.Float64bits", "math.sqrt", "math.archFloor", "math.archTrunc"], unfollowed := true, recurses := true, named := ["tarn/cube.frames", "tarn/geom.frames"], plainKeys := false, apart := false, laid := [("tarn/cube.frames", laid_tarn_cube_frames), ("tarn/geom.frames", laid_tarn_geom_frames)], narrowed := true }
def SaveFloatsUptoSaid : Prop := saveFloatsUptoRow.holds Tryz.pinned (OpenSpec.upto saveFloatsSpec)

/-- 'tarnlaw25.SaveKeeps', WHERE WHAT IT READS IS OF BULK AT MOST 1048576: true; the input reads as it did. -/
def saveKeepsUptoRow : OpenClaim := { program := "ytomopcclgokehaagreatdoor", sum := "c06993bb66a9020cd7ab575fe14de81f12639fd8d45b3239198a1958160057d2", func := "tarn/tarnlaw25.SaveKeeps", spec := "saveKeeps", inPlace := ["math.Float64frombits", "math.Float64bits", "math.sqrt", "math.archFloor", "math.archTrunc"], unfollowed := true, recurses := true, named := ["tarn/cube.frames", "tarn/geom.frames"], plainKeys := false, apart := false, laid := [("tarn/cube.frames", laid_tarn_cube_frames), ("tarn/geom.frames", laid_tarn_geom_frames)], narrowed := true }
def SaveKeepsUptoSaid : Prop := saveKeepsUptoRow.holds Tryz.pinned (OpenSpec.upto saveKeepsSpec)

end Rows
end Go.Proofs.YtomopcclgokehaaGreatDoor
