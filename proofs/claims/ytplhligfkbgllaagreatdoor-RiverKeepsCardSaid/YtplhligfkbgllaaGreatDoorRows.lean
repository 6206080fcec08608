/-
  NARROWER THAN 'FOR EVERY INPUT', by the rows' own cells (each row's printed sentence says how): ShareAll: laid · TracerFlows: laid · RiverRuns: laid · RiverDowns: laid · RiverKept: laid · RiverDownhill: laid · RiverOrder: laid · RiverDeep: laid · RiverKeeps: laid.
  DERIVED. THE GIVEN ROWS OF THIS SEAT. 9 by the template 'for every input the law returns true; each argument reads behind the call as it read before'; 0 by the template 'total and deterministic' (their statements: YtplhligfkbgllaaGreatDoorTotals.lean).
  GIVEN WITH THE SEED: the statements are not yours to turn. If you find one false, say at which input.
  Laid BY PROGRAM, IN A SANDBOX (cutbox-rows.mjs): the forced cells as the released guide's own fill.sh prints them over the translation 0e53420fc909c3e5… (all of the seat's roots in one cut). By AI agents, Wed Nov 11 2026. No macro, syntax, notation, axiom, sorry.
-/
import Derived.Test.YtplhligfkbgllaaGreatDoorChecked
import GoSem.Claim
import GoSem.ClaimJoined
import GoSem.ClaimMapViews
import Derived.JoinedTies
import Derived.KernelRfl
namespace Go.Proofs.YtplhligfkbgllaaGreatDoor
/- THE CELL 'sum', in the pinned program and in every row, IS THE sha256 OF THE DUMP (.gsa) THAT YtplhligfkbgllaaGreatDoorProg.lean LOADS. Nothing in Lean hashes anything: it is a label: what it is worth is what the hold of that sum in a sandbox is worth. -/
noncomputable def Tryz.pinned : Pinned := { name := "ytplhligfkbgllaagreatdoor", sum := "0e53420fc909c3e5395bf4323942c8781e8bed7b7d375ff9fbebe5a7d94883f0", checked := Tryz.checked }
namespace Rows
def none {H : Type} : Left H := { results := [], args := [] }

/- WHAT THE LISTED PACKAGE-LEVEL VARIABLES READ AS WHEN THE CALL BEGINS. Each datum BY PROGRAM (the guide's laid-datum.mjs) off the statement by which the dump's own 'gosem.cut.vars' lays the variable. In a bare row this is a premise. The card (YtplhligfkbgllaaGreatDoorCards.lean) ties it to the program's text. -/
def laid_tarn_cube_frames {H : Type} : DataW H := .agg [.agg [.agg [.lit (.int .i64 1), .lit (.int .i64 0), .lit (.int .i64 0)], .agg [.lit (.int .i64 0), .lit (.int .i64 1), .lit (.int .i64 0)], .agg [.lit (.int .i64 0), .lit (.int .i64 0), .lit (.int .i64 1)]], .agg [.agg [.lit (.int .i64 0), .lit (.int .i64 1), .lit (.int .i64 0)], .agg [.lit (.int .i64 (-1)), .lit (.int .i64 0), .lit (.int .i64 0)], .agg [.lit (.int .i64 0), .lit (.int .i64 0), .lit (.int .i64 1)]], .agg [.agg [.lit (.int .i64 (-1)), .lit (.int .i64 0), .lit (.int .i64 0)], .agg [.lit (.int .i64 0), .lit (.int .i64 (-1)), .lit (.int .i64 0)], .agg [.lit (.int .i64 0), .lit (.int .i64 0), .lit (.int .i64 1)]], .agg [.agg [.lit (.int .i64 0), .lit (.int .i64 (-1)), .lit (.int .i64 0)], .agg [.lit (.int .i64 1), .lit (.int .i64 0), .lit (.int .i64 0)], .agg [.lit (.int .i64 0), .lit (.int .i64 0), .lit (.int .i64 1)]], .agg [.agg [.lit (.int .i64 0), .lit (.int .i64 0), .lit (.int .i64 1)], .agg [.lit (.int .i64 0), .lit (.int .i64 1), .lit (.int .i64 0)], .agg [.lit (.int .i64 (-1)), .lit (.int .i64 0), .lit (.int .i64 0)]], .agg [.agg [.lit (.int .i64 0), .lit (.int .i64 0), .lit (.int .i64 (-1))], .agg [.lit (.int .i64 0), .lit (.int .i64 1), .lit (.int .i64 0)], .agg [.lit (.int .i64 1), .lit (.int .i64 0), .lit (.int .i64 0)]]]
def laid_tarn_geom_frames {H : Type} : DataW H := .agg [.agg [.agg [.lit (.int .i64 1), .lit (.int .i64 0), .lit (.int .i64 0)], .agg [.lit (.int .i64 0), .lit (.int .i64 1), .lit (.int .i64 0)], .agg [.lit (.int .i64 0), .lit (.int .i64 0), .lit (.int .i64 1)]], .agg [.agg [.lit (.int .i64 0), .lit (.int .i64 1), .lit (.int .i64 0)], .agg [.lit (.int .i64 (-1)), .lit (.int .i64 0), .lit (.int .i64 0)], .agg [.lit (.int .i64 0), .lit (.int .i64 0), .lit (.int .i64 1)]], .agg [.agg [.lit (.int .i64 (-1)), .lit (.int .i64 0), .lit (.int .i64 0)], .agg [.lit (.int .i64 0), .lit (.int .i64 (-1)), .lit (.int .i64 0)], .agg [.lit (.int .i64 0), .lit (.int .i64 0), .lit (.int .i64 1)]], .agg [.agg [.lit (.int .i64 0), .lit (.int .i64 (-1)), .lit (.int .i64 0)], .agg [.lit (.int .i64 1), .lit (.int .i64 0), .lit (.int .i64 0)], .agg [.lit (.int .i64 0), .lit (.int .i64 0), .lit (.int .i64 1)]], .agg [.agg [.lit (.int .i64 0), .lit (.int .i64 0), .lit (.int .i64 1)], .agg [.lit (.int .i64 0), .lit (.int .i64 1), .lit (.int .i64 0)], .agg [.lit (.int .i64 (-1)), .lit (.int .i64 0), .lit (.int .i64 0)]], .agg [.agg [.lit (.int .i64 0), .lit (.int .i64 0), .lit (.int .i64 (-1))], .agg [.lit (.int .i64 0), .lit (.int .i64 1), .lit (.int .i64 0)], .agg [.lit (.int .i64 1), .lit (.int .i64 0), .lit (.int .i64 0)]]]

/-- 'tarnlaw14.ShareAll': WHATEVER THE INPUT: true; the input reads as it did. -/
def shareAllSpec : ChangeSpec := { name := "shareAll", fn := fun _ => fun
  | [d1, d2, d3] => { results := [.lit (.bool true)], args := [d1, d2, d3] }
  | _ => none }
def shareAllRow : OpenClaim := { program := "ytplhligfkbgllaagreatdoor", sum := "0e53420fc909c3e5395bf4323942c8781e8bed7b7d375ff9fbebe5a7d94883f0", func := "tarn/tarnlaw14.ShareAll", spec := "shareAll", inPlace := ["math.Float64frombits", "math.Float64bits", "math.sqrt", "math.archFloor", "math.archTrunc"], unfollowed := true, recurses := true, named := ["math/bits.divideError", "math/bits.overflowError", "tarn/cube.frames", "tarn/geom.frames"], plainKeys := false, apart := false, laid := [("tarn/cube.frames", laid_tarn_cube_frames), ("tarn/geom.frames", laid_tarn_geom_frames)] }
def ShareAllSaid : Prop := shareAllRow.holds Tryz.pinned (OpenSpec.ofChange shareAllSpec)

/-- ITS FALSE NEIGHBOUR: 'it returns false'. Refute it at one input. -/
def shareAllWrong : ChangeSpec := { name := "shareAll", fn := fun _ => fun
  | [d1, d2, d3] => { results := [.lit (.bool false)], args := [d1, d2, d3] }
  | _ => none }
def ShareAllWrongFalsely : Prop := shareAllRow.holds Tryz.pinned (OpenSpec.ofChange shareAllWrong)

/-- 'tarnlaw17.TracerFlows': WHATEVER THE INPUT: true; the input reads as it did. -/
def tracerFlowsSpec : ChangeSpec := { name := "tracerFlows", fn := fun _ => fun
  | [d1, d2, d3, d4] => { results := [.lit (.bool true)], args := [d1, d2, d3, d4] }
  | _ => none }
def tracerFlowsRow : OpenClaim := { program := "ytplhligfkbgllaagreatdoor", sum := "0e53420fc909c3e5395bf4323942c8781e8bed7b7d375ff9fbebe5a7d94883f0", func := "tarn/tarnlaw17.TracerFlows", spec := "tracerFlows", inPlace := ["math.Float64frombits", "math.Float64bits", "math.sqrt", "math.archFloor", "math.archTrunc"], unfollowed := true, recurses := true, named := ["math/bits.divideError", "math/bits.overflowError", "tarn/cube.frames", "tarn/geom.frames"], plainKeys := false, apart := false, laid := [("tarn/cube.frames", laid_tarn_cube_frames), ("tarn/geom.frames", laid_tarn_geom_frames)] }
def TracerFlowsSaid : Prop := tracerFlowsRow.holds Tryz.pinned (OpenSpec.ofChange tracerFlowsSpec)

/-- ITS FALSE NEIGHBOUR: 'it returns false'. Refute it at one input. -/
def tracerFlowsWrong : ChangeSpec := { name := "tracerFlows", fn := fun _ => fun
  | [d1, d2, d3, d4] => { results := [.lit (.bool false)], args := [d1, d2, d3, d4] }
  | _ => none }
def TracerFlowsWrongFalsely : Prop := tracerFlowsRow.holds Tryz.pinned (OpenSpec.ofChange tracerFlowsWrong)

/-- 'tarnlaw19.RiverRuns': WHATEVER THE INPUT: true; the input reads as it did. -/
def riverRunsSpec : ChangeSpec := { name := "riverRuns", fn := fun _ => fun
  | [d1, d2] => { results := [.lit (.bool true)], args := [d1, d2] }
  | _ => none }
def riverRunsRow : OpenClaim := { program := "ytplhligfkbgllaagreatdoor", sum := "0e53420fc909c3e5395bf4323942c8781e8bed7b7d375ff9fbebe5a7d94883f0", func := "tarn/tarnlaw19.RiverRuns", spec := "riverRuns", inPlace := ["math.Float64frombits", "math.Float64bits", "math.sqrt", "math.archFloor", "math.archTrunc"], unfollowed := true, recurses := true, named := ["tarn/cube.frames", "tarn/geom.frames", "math/bits.divideError", "math/bits.overflowError"], plainKeys := false, apart := false, laid := [("tarn/cube.frames", laid_tarn_cube_frames), ("tarn/geom.frames", laid_tarn_geom_frames)] }
def RiverRunsSaid : Prop := riverRunsRow.holds Tryz.pinned (OpenSpec.ofChange riverRunsSpec)

/-- ITS FALSE NEIGHBOUR: 'it returns false'. Refute it at one input. -/
def riverRunsWrong : ChangeSpec := { name := "riverRuns", fn := fun _ => fun
  | [d1, d2] => { results := [.lit (.bool false)], args := [d1, d2] }
  | _ => none }
def RiverRunsWrongFalsely : Prop := riverRunsRow.holds Tryz.pinned (OpenSpec.ofChange riverRunsWrong)

/-- 'tarnlaw19.RiverDowns': WHATEVER THE INPUT: true; the input reads as it did. -/
def riverDownsSpec : ChangeSpec := { name := "riverDowns", fn := fun _ => fun
  | [d1, d2, d3] => { results := [.lit (.bool true)], args := [d1, d2, d3] }
  | _ => none }
def riverDownsRow : OpenClaim := { program := "ytplhligfkbgllaagreatdoor", sum := "0e53420fc909c3e5395bf4323942c8781e8bed7b7d375ff9fbebe5a7d94883f0", func := "tarn/tarnlaw19.RiverDowns", spec := "riverDowns", inPlace := ["math.Float64frombits", "math.Float64bits", "math.sqrt", "math.archFloor", "math.archTrunc"], unfollowed := true, recurses := true, named := ["tarn/cube.frames", "tarn/geom.frames", "math/bits.divideError", "math/bits.overflowError"], plainKeys := false, apart := false, laid := [("tarn/cube.frames", laid_tarn_cube_frames), ("tarn/geom.frames", laid_tarn_geom_frames)] }
def RiverDownsSaid : Prop := riverDownsRow.holds Tryz.pinned (OpenSpec.ofChange riverDownsSpec)

/-- ITS FALSE NEIGHBOUR: 'it returns false'. Refute it at one input. -/
def riverDownsWrong : ChangeSpec := { name := "riverDowns", fn := fun _ => fun
  | [d1, d2, d3] => { results := [.lit (.bool false)], args := [d1, d2, d3] }
  | _ => none }
def RiverDownsWrongFalsely : Prop := riverDownsRow.holds Tryz.pinned (OpenSpec.ofChange riverDownsWrong)

/-- 'tarnlaw19.RiverKept': WHATEVER THE INPUT: true; the input reads as it did. -/
def riverKeptSpec : ChangeSpec := { name := "riverKept", fn := fun _ => fun
  | [d1, d2] => { results := [.lit (.bool true)], args := [d1, d2] }
  | _ => none }
def riverKeptRow : OpenClaim := { program := "ytplhligfkbgllaagreatdoor", sum := "0e53420fc909c3e5395bf4323942c8781e8bed7b7d375ff9fbebe5a7d94883f0", func := "tarn/tarnlaw19.RiverKept", spec := "riverKept", inPlace := ["math.Float64frombits", "math.Float64bits", "math.sqrt", "math.archFloor", "math.archTrunc"], unfollowed := true, recurses := true, named := ["tarn/cube.frames", "tarn/geom.frames", "math/bits.divideError", "math/bits.overflowError"], plainKeys := false, apart := false, laid := [("tarn/cube.frames", laid_tarn_cube_frames), ("tarn/geom.frames", laid_tarn_geom_frames)] }
def RiverKeptSaid : Prop := riverKeptRow.holds Tryz.pinned (OpenSpec.ofChange riverKeptSpec)

/-- ITS FALSE NEIGHBOUR: 'it returns false'. Refute it at one input. -/
def riverKeptWrong : ChangeSpec := { name := "riverKept", fn := fun _ => fun
  | [d1, d2] => { results := [.lit (.bool false)], args := [d1, d2] }
  | _ => none }
def RiverKeptWrongFalsely : Prop := riverKeptRow.holds Tryz.pinned (OpenSpec.ofChange riverKeptWrong)

/-- 'tarnlaw19.RiverDownhill': WHATEVER THE INPUT: true; the input reads as it did. -/
def riverDownhillSpec : ChangeSpec := { name := "riverDownhill", fn := fun _ => fun
  | [d1, d2, d3] => { results := [.lit (.bool true)], args := [d1, d2, d3] }
  | _ => none }
def riverDownhillRow : OpenClaim := { program := "ytplhligfkbgllaagreatdoor", sum := "0e53420fc909c3e5395bf4323942c8781e8bed7b7d375ff9fbebe5a7d94883f0", func := "tarn/tarnlaw19.RiverDownhill", spec := "riverDownhill", inPlace := ["math.Float64frombits", "math.Float64bits", "math.sqrt", "math.archFloor", "math.archTrunc"], unfollowed := true, recurses := true, named := ["tarn/cube.frames", "tarn/geom.frames", "math/bits.divideError", "math/bits.overflowError"], plainKeys := false, apart := false, laid := [("tarn/cube.frames", laid_tarn_cube_frames), ("tarn/geom.frames", laid_tarn_geom_frames)] }
def RiverDownhillSaid : Prop := riverDownhillRow.holds Tryz.pinned (OpenSpec.ofChange riverDownhillSpec)

/-- ITS FALSE NEIGHBOUR: 'it returns false'. Refute it at one input. -/
def riverDownhillWrong : ChangeSpec := { name := "riverDownhill", fn := fun _ => fun
  | [d1, d2, d3] => { results := [.lit (.bool false)], args := [d1, d2, d3] }
  | _ => none }
def RiverDownhillWrongFalsely : Prop := riverDownhillRow.holds Tryz.pinned (OpenSpec.ofChange riverDownhillWrong)

/-- 'tarnlaw19.RiverOrder': WHATEVER THE INPUT: true; the input reads as it did. -/
def riverOrderSpec : ChangeSpec := { name := "riverOrder", fn := fun _ => fun
  | [d] => { results := [.lit (.bool true)], args := [d] }
  | _ => none }
def riverOrderRow : OpenClaim := { program := "ytplhligfkbgllaagreatdoor", sum := "0e53420fc909c3e5395bf4323942c8781e8bed7b7d375ff9fbebe5a7d94883f0", func := "tarn/tarnlaw19.RiverOrder", spec := "riverOrder", inPlace := ["math.Float64frombits", "math.Float64bits", "math.sqrt", "math.archFloor", "math.archTrunc"], unfollowed := true, recurses := true, named := ["tarn/cube.frames", "tarn/geom.frames", "math/bits.divideError", "math/bits.overflowError"], plainKeys := false, apart := false, laid := [("tarn/cube.frames", laid_tarn_cube_frames), ("tarn/geom.frames", laid_tarn_geom_frames)] }
def RiverOrderSaid : Prop := riverOrderRow.holds Tryz.pinned (OpenSpec.ofChange riverOrderSpec)

/-- ITS FALSE NEIGHBOUR: 'it returns false'. Refute it at one input. -/
def riverOrderWrong : ChangeSpec := { name := "riverOrder", fn := fun _ => fun
  | [d] => { results := [.lit (.bool false)], args := [d] }
  | _ => none }
def RiverOrderWrongFalsely : Prop := riverOrderRow.holds Tryz.pinned (OpenSpec.ofChange riverOrderWrong)

/-- 'tarnlaw19.RiverDeep': WHATEVER THE INPUT: true; the input reads as it did. -/
def riverDeepSpec : ChangeSpec := { name := "riverDeep", fn := fun _ => fun
  | [d1, d2] => { results := [.lit (.bool true)], args := [d1, d2] }
  | _ => none }
def riverDeepRow : OpenClaim := { program := "ytplhligfkbgllaagreatdoor", sum := "0e53420fc909c3e5395bf4323942c8781e8bed7b7d375ff9fbebe5a7d94883f0", func := "tarn/tarnlaw19.RiverDeep", spec := "riverDeep", inPlace := ["math.Float64frombits", "math.Float64bits", "math.sqrt", "math.archFloor", "math.archTrunc"], unfollowed := true, recurses := true, named := ["tarn/cube.frames", "tarn/geom.frames", "math/bits.divideError", "math/bits.overflowError"], plainKeys := false, apart := false, laid := [("tarn/cube.frames", laid_tarn_cube_frames), ("tarn/geom.frames", laid_tarn_geom_frames)] }
def RiverDeepSaid : Prop := riverDeepRow.holds Tryz.pinned (OpenSpec.ofChange riverDeepSpec)

/-- ITS FALSE NEIGHBOUR: 'it returns false'. Refute it at one input. -/
def riverDeepWrong : ChangeSpec := { name := "riverDeep", fn := fun _ => fun
  | [d1, d2] => { results := [.lit (.bool false)], args := [d1, d2] }
  | _ => none }
def RiverDeepWrongFalsely : Prop := riverDeepRow.holds Tryz.pinned (OpenSpec.ofChange riverDeepWrong)

/-- 'tarnlaw19.RiverKeeps': WHATEVER THE INPUT: true; the input reads as it did. -/
def riverKeepsSpec : ChangeSpec := { name := "riverKeeps", fn := fun _ => fun
  | [d1, d2] => { results := [.lit (.bool true)], args := [d1, d2] }
  | _ => none }
def riverKeepsRow : OpenClaim := { program := "ytplhligfkbgllaagreatdoor", sum := "0e53420fc909c3e5395bf4323942c8781e8bed7b7d375ff9fbebe5a7d94883f0", func := "tarn/tarnlaw19.RiverKeeps", spec := "riverKeeps", inPlace := ["math.Float64frombits", "math.Float64bits", "math.sqrt", "math.archFloor", "math.archTrunc"], unfollowed := true, recurses := true, named := ["tarn/cube.frames", "tarn/geom.frames", "math/bits.divideError", "math/bits.overflowError"], plainKeys := false, apart := false, laid := [("tarn/cube.frames", laid_tarn_cube_frames), ("tarn/geom.frames", laid_tarn_geom_frames)] }
def RiverKeepsSaid : Prop := riverKeepsRow.holds Tryz.pinned (OpenSpec.ofChange riverKeepsSpec)

/-- ITS FALSE NEIGHBOUR: 'it returns false'. Refute it at one input. -/
def riverKeepsWrong : ChangeSpec := { name := "riverKeeps", fn := fun _ => fun
  | [d1, d2] => { results := [.lit (.bool false)], args := [d1, d2] }
  | _ => none }
def RiverKeepsWrongFalsely : Prop := riverKeepsRow.holds Tryz.pinned (OpenSpec.ofChange riverKeepsWrong)

/- THE SECOND FORM. 'bulk': how many values and letters a reading holds, each counted each time it is reached (what is shared counts as often as it is met; a slice's spare places count too). A statement '..UptoSaid' is the law's where the arguments, and the package variables that the reading takes, are together of bulk at most 1048576: NARROWER than '..Said'. Prove '..Said' where nothing that the law and all that it calls make is longer than what came in: it says more and counts as full. Else prove '..UptoSaid'. A law counts once. -/
mutual
def uptoBulk {H : Type} : DataW H → Nat
  | .lit (.string bytes) => bytes.length + 1
  | .lit _ => 1
  | .nil => 1
  | .ptr d => uptoBulk d + 1
  | .slice elems spare => uptoBulkAll elems + uptoBulkAll spare + 1
  | .agg parts => uptoBulkAll parts + 1
  | .iface _ d => uptoBulk d + 1
  | .map entries => uptoBulkEntries entries + 1
  | .held _ => 1
def uptoBulkAll {H : Type} : List (DataW H) → Nat
  | [] => 0
  | d :: r => uptoBulk d + uptoBulkAll r
def uptoBulkEntries {H : Type} : List (Lit × DataW H) → Nat
  | [] => 0
  | x :: r => uptoBulkEntry x + uptoBulkEntries r
def uptoBulkEntry {H : Type} : Lit × DataW H → Nat
  | (.string bytes, d) => bytes.length + uptoBulk d + 1
  | (_, d) => uptoBulk d + 1
 end
def uptoSmall : (H : Type) → List (DataW H) → Bool := fun _ ds => decide (uptoBulkAll ds ≤ 1048576)
def OpenSpec.upto (s : _root_.Go.ChangeSpec) : _root_.Go.OpenSpec := { _root_.Go.OpenSpec.ofChange s with cond := some uptoSmall }

/-- 'tarnlaw14.ShareAll', WHERE WHAT IT READS IS OF BULK AT MOST 1048576: true; the input reads as it did. -/
def shareAllUptoRow : OpenClaim := { program := "ytplhligfkbgllaagreatdoor", sum := "0e53420fc909c3e5395bf4323942c8781e8bed7b7d375ff9fbebe5a7d94883f0", func := "tarn/tarnlaw14.ShareAll", spec := "shareAll", inPlace := ["math.Float64frombits", "math.Float64bits", "math.sqrt", "math.archFloor", "math.archTrunc"], unfollowed := true, recurses := true, named := ["math/bits.divideError", "math/bits.overflowError", "tarn/cube.frames", "tarn/geom.frames"], plainKeys := false, apart := false, laid := [("tarn/cube.frames", laid_tarn_cube_frames), ("tarn/geom.frames", laid_tarn_geom_frames)], narrowed := true }
def ShareAllUptoSaid : Prop := shareAllUptoRow.holds Tryz.pinned (OpenSpec.upto shareAllSpec)

/-- 'tarnlaw17.TracerFlows', WHERE WHAT IT READS IS OF BULK AT MOST 1048576: true; the input reads as it did. -/
def tracerFlowsUptoRow : OpenClaim := { program := "ytplhligfkbgllaagreatdoor", sum := "0e53420fc909c3e5395bf4323942c8781e8bed7b7d375ff9fbebe5a7d94883f0", func := "tarn/tarnlaw17.TracerFlows", spec := "tracerFlows", inPlace := ["math.Float64frombits", "math.Float64bits", "math.sqrt", "math.archFloor", "math.archTrunc"], unfollowed := true, recurses := true, named := ["math/bits.divideError", "math/bits.overflowError", "tarn/cube.frames", "tarn/geom.frames"], plainKeys := false, apart := false, laid := [("tarn/cube.frames", laid_tarn_cube_frames), ("tarn/geom.frames", laid_tarn_geom_frames)], narrowed := true }
def TracerFlowsUptoSaid : Prop := tracerFlowsUptoRow.holds Tryz.pinned (OpenSpec.upto tracerFlowsSpec)

/-- 'tarnlaw19.RiverRuns', WHERE WHAT IT READS IS OF BULK AT MOST 1048576: true; the input reads as it did. -/
def riverRunsUptoRow : OpenClaim := { program := "ytplhligfkbgllaagreatdoor", sum := "0e53420fc909c3e5395bf4323942c8781e8bed7b7d375ff9fbebe5a7d94883f0", func := "tarn/tarnlaw19.RiverRuns", spec := "riverRuns", inPlace := ["math.Float64frombits", "math.Float64bits", "math.sqrt", "math.archFloor", "math.archTrunc"], unfollowed := true, recurses := true, named := ["tarn/cube.frames", "tarn/geom.frames", "math/bits.divideError", "math/bits.overflowError"], plainKeys := false, apart := false, laid := [("tarn/cube.frames", laid_tarn_cube_frames), ("tarn/geom.frames", laid_tarn_geom_frames)], narrowed := true }
def RiverRunsUptoSaid : Prop := riverRunsUptoRow.holds Tryz.pinned (OpenSpec.upto riverRunsSpec)

/-- 'tarnlaw19.RiverDowns', WHERE WHAT IT READS IS OF BULK AT MOST 1048576: true; the input reads as it did. -/
def riverDownsUptoRow : OpenClaim := { program := "ytplhligfkbgllaagreatdoor", sum := "0e53420fc909c3e5395bf4323942c8781e8bed7b7d375ff9fbebe5a7d94883f0", func := "tarn/tarnlaw19.RiverDowns", spec := "riverDowns", inPlace := ["math.Float64frombits", "math.Float64bits", "math.sqrt", "math.archFloor", "math.archTrunc"], unfollowed := true, recurses := true, named := ["tarn/cube.frames", "tarn/geom.frames", "math/bits.divideError", "math/bits.overflowError"], plainKeys := false, apart := false, laid := [("tarn/cube.frames", laid_tarn_cube_frames), ("tarn/geom.frames", laid_tarn_geom_frames)], narrowed := true }
def RiverDownsUptoSaid : Prop := riverDownsUptoRow.holds Tryz.pinned (OpenSpec.upto riverDownsSpec)

/-- 'tarnlaw19.RiverKept', WHERE WHAT IT READS IS OF BULK AT MOST 1048576: true; the input reads as it did. -/
def riverKeptUptoRow : OpenClaim := { program := "ytplhligfkbgllaagreatdoor", sum := "0e53420fc909c3e5395bf4323942c8781e8bed7b7d375ff9fbebe5a7d94883f0", func := "tarn/tarnlaw19.RiverKept", spec := "riverKept", inPlace := ["math.Float64frombits", "math.Float64bits", "math.sqrt", "math.archFloor", "math.archTrunc"], unfollowed := true, recurses := true, named := ["tarn/cube.frames", "tarn/geom.frames", "math/bits.divideError", "math/bits.overflowError"], plainKeys := false, apart := false, laid := [("tarn/cube.frames", laid_tarn_cube_frames), ("tarn/geom.frames", laid_tarn_geom_frames)], narrowed := true }
def RiverKeptUptoSaid : Prop := riverKeptUptoRow.holds Tryz.pinned (OpenSpec.upto riverKeptSpec)

/-- 'tarnlaw19.RiverDownhill', WHERE WHAT IT READS IS OF BULK AT MOST 1048576: true; the input reads as it did. -/
def riverDownhillUptoRow : OpenClaim := { program := "ytplhligfkbgllaagreatdoor", sum := "0e53420fc909c3e5395bf4323942c8781e8bed7b7d375ff9fbebe5a7d94883f0", func := "tarn/tarnlaw19.RiverDownhill", spec := "riverDownhill", inPlace := ["math.Float64frombits", "math.Float64bits", "math.sqrt", "math.archFloor", "math.archTrunc"], unfollowed := true, recurses := true, named := ["tarn/cube.frames", "tarn/geom.frames", "math/bits.divideError", "math/bits.overflowError"], plainKeys := false, apart := false, laid := [("tarn/cube.frames", laid_tarn_cube_frames), ("tarn/geom.frames", laid_tarn_geom_frames)], narrowed := true }
def RiverDownhillUptoSaid : Prop := riverDownhillUptoRow.holds Tryz.pinned (OpenSpec.upto riverDownhillSpec)

/-- 'tarnlaw19.RiverOrder', WHERE WHAT IT READS IS OF BULK AT MOST 1048576: true; the input reads as it did. -/
def riverOrderUptoRow : OpenClaim := { program := "ytplhligfkbgllaagreatdoor", sum := "0e53420fc909c3e5395bf4323942c8781e8bed7b7d375ff9fbebe5a7d94883f0", func := "tarn/tarnlaw19.RiverOrder", spec := "riverOrder", inPlace := ["math.Float64frombits", "math.Float64bits", "math.sqrt", "math.archFloor", "math.archTrunc"], unfollowed := true, recurses := true, named := ["tarn/cube.frames", "tarn/geom.frames", "math/bits.divideError", "math/bits.overflowError"], plainKeys := false, apart := false, laid := [("tarn/cube.frames", laid_tarn_cube_frames), ("tarn/geom.frames", laid_tarn_geom_frames)], narrowed := true }
def RiverOrderUptoSaid : Prop := riverOrderUptoRow.holds Tryz.pinned (OpenSpec.upto riverOrderSpec)

/-- 'tarnlaw19.RiverDeep', WHERE WHAT IT READS IS OF BULK AT MOST 1048576: true; the input reads as it did. -/
def riverDeepUptoRow : OpenClaim := { program := "ytplhligfkbgllaagreatdoor", sum := "0e53420fc909c3e5395bf4323942c8781e8bed7b7d375ff9fbebe5a7d94883f0", func := "tarn/tarnlaw19.RiverDeep", spec := "riverDeep", inPlace := ["math.Float64frombits", "math.Float64bits", "math.sqrt", "math.archFloor", "math.archTrunc"], unfollowed := true, recurses := true, named := ["tarn/cube.frames", "tarn/geom.frames", "math/bits.divideError", "math/bits.overflowError"], plainKeys := false, apart := false, laid := [("tarn/cube.frames", laid_tarn_cube_frames), ("tarn/geom.frames", laid_tarn_geom_frames)], narrowed := true }
def RiverDeepUptoSaid : Prop := riverDeepUptoRow.holds Tryz.pinned (OpenSpec.upto riverDeepSpec)

/-- 'tarnlaw19.RiverKeeps', WHERE WHAT IT READS IS OF BULK AT MOST 1048576: true; the input reads as it did. -/
def riverKeepsUptoRow : OpenClaim := { program := "ytplhligfkbgllaagreatdoor", sum := "0e53420fc909c3e5395bf4323942c8781e8bed7b7d375ff9fbebe5a7d94883f0", func := "tarn/tarnlaw19.RiverKeeps", spec := "riverKeeps", inPlace := ["math.Float64frombits", "math.Float64bits", "math.sqrt", "math.archFloor", "math.archTrunc"], unfollowed := true, recurses := true, named := ["tarn/cube.frames", "tarn/geom.frames", "math/bits.divideError", "math/bits.overflowError"], plainKeys := false, apart := false, laid := [("tarn/cube.frames", laid_tarn_cube_frames), ("tarn/geom.frames", laid_tarn_geom_frames)], narrowed := true }
def RiverKeepsUptoSaid : Prop := riverKeepsUptoRow.holds Tryz.pinned (OpenSpec.upto riverKeepsSpec)

end Rows
end Go.Proofs.YtplhligfkbgllaaGreatDoor
