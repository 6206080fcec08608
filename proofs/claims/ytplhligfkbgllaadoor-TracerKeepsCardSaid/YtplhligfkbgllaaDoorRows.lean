/-
  NARROWER THAN 'FOR EVERY INPUT', by the rows' own cells (each row's printed sentence says how): ShareGives: laid · ShareKeeps: laid · TracerGives: laid · TracerKeeps: laid.
  DERIVED. THE GIVEN ROWS OF THIS SEAT. 4 by the template 'for every input the law returns true; each argument reads behind the call as it read before'; 0 by the template 'total and deterministic' (their statements: YtplhligfkbgllaaDoorTotals.lean).
  GIVEN WITH THE SEED: the statements are not yours to turn. If you find one false, say at which input.
  Laid BY PROGRAM, IN A SANDBOX (cutbox-rows.mjs): the forced cells as the released guide's own fill.sh prints them over the translation d4a69f41be988c5f… (all of the seat's roots in one cut). By AI agents, Wed Nov 11 2026. No macro, syntax, notation, axiom, sorry.
-/
import Derived.Test.YtplhligfkbgllaaDoorChecked
import GoSem.Claim
import GoSem.ClaimJoined
import GoSem.ClaimMapViews
import Derived.JoinedTies
import Derived.KernelRfl
namespace Go.Proofs.YtplhligfkbgllaaDoor
/- THE CELL 'sum', in the pinned program and in every row, IS THE sha256 OF THE DUMP (.gsa) THAT YtplhligfkbgllaaDoorProg.lean LOADS. Nothing in Lean hashes anything: it is a label: what it is worth is what the hold of that sum in a sandbox is worth. -/
noncomputable def Tryd.pinned : Pinned := { name := "ytplhligfkbgllaadoor", sum := "d4a69f41be988c5ffffa74c6e49307412080bb86198906091a6ba0358805599a", checked := Tryd.checked }
namespace Rows
def none {H : Type} : Left H := { results := [], args := [] }

/- WHAT THE LISTED PACKAGE-LEVEL VARIABLES READ AS WHEN THE CALL BEGINS. Each datum BY PROGRAM (the guide's laid-datum.mjs) off the statement by which the dump's own 'gosem.cut.vars' lays the variable. In a bare row this is a premise. The card (YtplhligfkbgllaaDoorCards.lean) ties it to the program's text. -/
def laid_tarn_cube_frames {H : Type} : DataW H := .agg [.agg [.agg [.lit (.int .i64 1), .lit (.int .i64 0), .lit (.int .i64 0)], .agg [.lit (.int .i64 0), .lit (.int .i64 1), .lit (.int .i64 0)], .agg [.lit (.int .i64 0), .lit (.int .i64 0), .lit (.int .i64 1)]], .agg [.agg [.lit (.int .i64 0), .lit (.int .i64 1), .lit (.int .i64 0)], .agg [.lit (.int .i64 (-1)), .lit (.int .i64 0), .lit (.int .i64 0)], .agg [.lit (.int .i64 0), .lit (.int .i64 0), .lit (.int .i64 1)]], .agg [.agg [.lit (.int .i64 (-1)), .lit (.int .i64 0), .lit (.int .i64 0)], .agg [.lit (.int .i64 0), .lit (.int .i64 (-1)), .lit (.int .i64 0)], .agg [.lit (.int .i64 0), .lit (.int .i64 0), .lit (.int .i64 1)]], .agg [.agg [.lit (.int .i64 0), .lit (.int .i64 (-1)), .lit (.int .i64 0)], .agg [.lit (.int .i64 1), .lit (.int .i64 0), .lit (.int .i64 0)], .agg [.lit (.int .i64 0), .lit (.int .i64 0), .lit (.int .i64 1)]], .agg [.agg [.lit (.int .i64 0), .lit (.int .i64 0), .lit (.int .i64 1)], .agg [.lit (.int .i64 0), .lit (.int .i64 1), .lit (.int .i64 0)], .agg [.lit (.int .i64 (-1)), .lit (.int .i64 0), .lit (.int .i64 0)]], .agg [.agg [.lit (.int .i64 0), .lit (.int .i64 0), .lit (.int .i64 (-1))], .agg [.lit (.int .i64 0), .lit (.int .i64 1), .lit (.int .i64 0)], .agg [.lit (.int .i64 1), .lit (.int .i64 0), .lit (.int .i64 0)]]]
def laid_tarn_geom_frames {H : Type} : DataW H := .agg [.agg [.agg [.lit (.int .i64 1), .lit (.int .i64 0), .lit (.int .i64 0)], .agg [.lit (.int .i64 0), .lit (.int .i64 1), .lit (.int .i64 0)], .agg [.lit (.int .i64 0), .lit (.int .i64 0), .lit (.int .i64 1)]], .agg [.agg [.lit (.int .i64 0), .lit (.int .i64 1), .lit (.int .i64 0)], .agg [.lit (.int .i64 (-1)), .lit (.int .i64 0), .lit (.int .i64 0)], .agg [.lit (.int .i64 0), .lit (.int .i64 0), .lit (.int .i64 1)]], .agg [.agg [.lit (.int .i64 (-1)), .lit (.int .i64 0), .lit (.int .i64 0)], .agg [.lit (.int .i64 0), .lit (.int .i64 (-1)), .lit (.int .i64 0)], .agg [.lit (.int .i64 0), .lit (.int .i64 0), .lit (.int .i64 1)]], .agg [.agg [.lit (.int .i64 0), .lit (.int .i64 (-1)), .lit (.int .i64 0)], .agg [.lit (.int .i64 1), .lit (.int .i64 0), .lit (.int .i64 0)], .agg [.lit (.int .i64 0), .lit (.int .i64 0), .lit (.int .i64 1)]], .agg [.agg [.lit (.int .i64 0), .lit (.int .i64 0), .lit (.int .i64 1)], .agg [.lit (.int .i64 0), .lit (.int .i64 1), .lit (.int .i64 0)], .agg [.lit (.int .i64 (-1)), .lit (.int .i64 0), .lit (.int .i64 0)]], .agg [.agg [.lit (.int .i64 0), .lit (.int .i64 0), .lit (.int .i64 (-1))], .agg [.lit (.int .i64 0), .lit (.int .i64 1), .lit (.int .i64 0)], .agg [.lit (.int .i64 1), .lit (.int .i64 0), .lit (.int .i64 0)]]]

/-- 'tarnlaw14.ShareGives': WHATEVER THE INPUT: true; the input reads as it did. -/
def shareGivesSpec : ChangeSpec := { name := "shareGives", fn := fun _ => fun
  | [d1, d2, d3] => { results := [.lit (.bool true)], args := [d1, d2, d3] }
  | _ => none }
def shareGivesRow : OpenClaim := { program := "ytplhligfkbgllaadoor", sum := "d4a69f41be988c5ffffa74c6e49307412080bb86198906091a6ba0358805599a", func := "tarn/tarnlaw14.ShareGives", spec := "shareGives", inPlace := ["math.Float64frombits", "math.Float64bits", "math.sqrt", "math.archFloor", "math.archTrunc"], unfollowed := true, recurses := true, named := ["math/bits.divideError", "math/bits.overflowError", "tarn/cube.frames", "tarn/geom.frames"], plainKeys := false, apart := false, laid := [("tarn/cube.frames", laid_tarn_cube_frames), ("tarn/geom.frames", laid_tarn_geom_frames)] }
def ShareGivesSaid : Prop := shareGivesRow.holds Tryd.pinned (OpenSpec.ofChange shareGivesSpec)

/-- ITS FALSE NEIGHBOUR: 'it returns false'. Refute it at one input. -/
def shareGivesWrong : ChangeSpec := { name := "shareGives", fn := fun _ => fun
  | [d1, d2, d3] => { results := [.lit (.bool false)], args := [d1, d2, d3] }
  | _ => none }
def ShareGivesWrongFalsely : Prop := shareGivesRow.holds Tryd.pinned (OpenSpec.ofChange shareGivesWrong)

/-- 'tarnlaw14.ShareKeeps': WHATEVER THE INPUT: true; the input reads as it did. -/
def shareKeepsSpec : ChangeSpec := { name := "shareKeeps", fn := fun _ => fun
  | [d1, d2, d3] => { results := [.lit (.bool true)], args := [d1, d2, d3] }
  | _ => none }
def shareKeepsRow : OpenClaim := { program := "ytplhligfkbgllaadoor", sum := "d4a69f41be988c5ffffa74c6e49307412080bb86198906091a6ba0358805599a", func := "tarn/tarnlaw14.ShareKeeps", spec := "shareKeeps", inPlace := ["math.Float64frombits", "math.Float64bits", "math.sqrt", "math.archFloor", "math.archTrunc"], unfollowed := true, recurses := true, named := ["math/bits.divideError", "math/bits.overflowError", "tarn/cube.frames", "tarn/geom.frames"], plainKeys := false, apart := false, laid := [("tarn/cube.frames", laid_tarn_cube_frames), ("tarn/geom.frames", laid_tarn_geom_frames)] }
def ShareKeepsSaid : Prop := shareKeepsRow.holds Tryd.pinned (OpenSpec.ofChange shareKeepsSpec)

/-- ITS FALSE NEIGHBOUR: 'it returns false'. Refute it at one input. -/
def shareKeepsWrong : ChangeSpec := { name := "shareKeeps", fn := fun _ => fun
  | [d1, d2, d3] => { results := [.lit (.bool false)], args := [d1, d2, d3] }
  | _ => none }
def ShareKeepsWrongFalsely : Prop := shareKeepsRow.holds Tryd.pinned (OpenSpec.ofChange shareKeepsWrong)

/-- 'tarnlaw17.TracerGives': WHATEVER THE INPUT: true; the input reads as it did. -/
def tracerGivesSpec : ChangeSpec := { name := "tracerGives", fn := fun _ => fun
  | [d1, d2, d3, d4] => { results := [.lit (.bool true)], args := [d1, d2, d3, d4] }
  | _ => none }
def tracerGivesRow : OpenClaim := { program := "ytplhligfkbgllaadoor", sum := "d4a69f41be988c5ffffa74c6e49307412080bb86198906091a6ba0358805599a", func := "tarn/tarnlaw17.TracerGives", spec := "tracerGives", inPlace := ["math.Float64frombits", "math.Float64bits", "math.sqrt", "math.archFloor", "math.archTrunc"], unfollowed := true, recurses := true, named := ["math/bits.divideError", "math/bits.overflowError", "tarn/cube.frames", "tarn/geom.frames"], plainKeys := false, apart := false, laid := [("tarn/cube.frames", laid_tarn_cube_frames), ("tarn/geom.frames", laid_tarn_geom_frames)] }
def TracerGivesSaid : Prop := tracerGivesRow.holds Tryd.pinned (OpenSpec.ofChange tracerGivesSpec)

/-- ITS FALSE NEIGHBOUR: 'it returns false'. Refute it at one input. -/
def tracerGivesWrong : ChangeSpec := { name := "tracerGives", fn := fun _ => fun
  | [d1, d2, d3, d4] => { results := [.lit (.bool false)], args := [d1, d2, d3, d4] }
  | _ => none }
def TracerGivesWrongFalsely : Prop := tracerGivesRow.holds Tryd.pinned (OpenSpec.ofChange tracerGivesWrong)

/-- 'tarnlaw17.TracerKeeps': WHATEVER THE INPUT: true; the input reads as it did. -/
def tracerKeepsSpec : ChangeSpec := { name := "tracerKeeps", fn := fun _ => fun
  | [d1, d2, d3, d4] => { results := [.lit (.bool true)], args := [d1, d2, d3, d4] }
  | _ => none }
def tracerKeepsRow : OpenClaim := { program := "ytplhligfkbgllaadoor", sum := "d4a69f41be988c5ffffa74c6e49307412080bb86198906091a6ba0358805599a", func := "tarn/tarnlaw17.TracerKeeps", spec := "tracerKeeps", inPlace := ["math.Float64frombits", "math.Float64bits", "math.sqrt", "math.archFloor", "math.archTrunc"], unfollowed := true, recurses := true, named := ["math/bits.divideError", "math/bits.overflowError", "tarn/cube.frames", "tarn/geom.frames"], plainKeys := false, apart := false, laid := [("tarn/cube.frames", laid_tarn_cube_frames), ("tarn/geom.frames", laid_tarn_geom_frames)] }
def TracerKeepsSaid : Prop := tracerKeepsRow.holds Tryd.pinned (OpenSpec.ofChange tracerKeepsSpec)

/-- ITS FALSE NEIGHBOUR: 'it returns false'. Refute it at one input. -/
def tracerKeepsWrong : ChangeSpec := { name := "tracerKeeps", fn := fun _ => fun
  | [d1, d2, d3, d4] => { results := [.lit (.bool false)], args := [d1, d2, d3, d4] }
  | _ => none }
def TracerKeepsWrongFalsely : Prop := tracerKeepsRow.holds Tryd.pinned (OpenSpec.ofChange tracerKeepsWrong)

/- THE SECOND FORM. 'bulk': how many values and letters a reading holds, each counted each time it is reached (what is shared counts as often as it is met; a slice's spare places count too). A statement '..UptoSaid' is the law's where the arguments, and the package variables that the reading takes, are together of bulk at most 1048576: NARROWER than '..Said'. Prove '..Said' where nothing that the law and all that it calls make is longer than what came in: it says more and counts as full. Else prove '..UptoSaid'. A law counts once. -/
mutual
def uptoBulk {H : Type} : DataW H → Nat
  | .lit (.string bytes) => bytes.length + 1
  | .lit _ => 1
  | .nil => 1
  | .ptr d => uptoBulk d + 1
  | .slice elems spare => uptoBulkAll elems + uptoBulkAll spare + 1
  | .agg parts => uptoBulkAll parts + 1
  | .iface _ d => uptoBulk d + 1
  | .map entries => uptoBulkEntries entries + 1
  | .held _ => 1
def uptoBulkAll {H : Type} : List (DataW H) → Nat
  | [] => 0
  | d :: r => uptoBulk d + uptoBulkAll r
def uptoBulkEntries {H : Type} : List (Lit × DataW H) → Nat
  | [] => 0
  | x :: r => uptoBulkEntry x + uptoBulkEntries r
def uptoBulkEntry {H : Type} : Lit × DataW H → Nat
  | (.string bytes, d) => bytes.length + uptoBulk d + 1
  | (_, d) => uptoBulk d + 1
 end
def uptoSmall : (H : Type) → List (DataW H) → Bool := fun _ ds => decide (uptoBulkAll ds ≤ 1048576)
def OpenSpec.upto (s : _root_.Go.ChangeSpec) : _root_.Go.OpenSpec := { _root_.Go.OpenSpec.ofChange s with cond := some uptoSmall }

/-- 'tarnlaw14.ShareGives', WHERE WHAT IT READS IS OF BULK AT MOST 1048576: true; the input reads as it did. -/
def shareGivesUptoRow : OpenClaim := { program := "ytplhligfkbgllaadoor", sum := "d4a69f41be988c5ffffa74c6e49307412080bb86198906091a6ba0358805599a", func := "tarn/tarnlaw14.ShareGives", spec := "shareGives", inPlace := ["math.Float64frombits", "math.Float64bits", "math.sqrt", "math.archFloor", "math.archTrunc"], unfollowed := true, recurses := true, named := ["math/bits.divideError", "math/bits.overflowError", "tarn/cube.frames", "tarn/geom.frames"], plainKeys := false, apart := false, laid := [("tarn/cube.frames", laid_tarn_cube_frames), ("tarn/geom.frames", laid_tarn_geom_frames)], narrowed := true }
def ShareGivesUptoSaid : Prop := shareGivesUptoRow.holds Tryd.pinned (OpenSpec.upto shareGivesSpec)

/-- 'tarnlaw14.ShareKeeps', WHERE WHAT IT READS IS OF BULK AT MOST 1048576: true; the input reads as it did. -/
def shareKeepsUptoRow : OpenClaim := { program := "ytplhligfkbgllaadoor", sum := "d4a69f41be988c5ffffa74c6e49307412080bb86198906091a6ba0358805599a", func := "tarn/tarnlaw14.ShareKeeps", spec := "shareKeeps", inPlace := ["math.Float64frombits", "math.Float64bits", "math.sqrt", "math.archFloor", "math.archTrunc"], unfollowed := true, recurses := true, named := ["math/bits.divideError", "math/bits.overflowError", "tarn/cube.frames", "tarn/geom.frames"], plainKeys := false, apart := false, laid := [("tarn/cube.frames", laid_tarn_cube_frames), ("tarn/geom.frames", laid_tarn_geom_frames)], narrowed := true }
def ShareKeepsUptoSaid : Prop := shareKeepsUptoRow.holds Tryd.pinned (OpenSpec.upto shareKeepsSpec)

/-- 'tarnlaw17.TracerGives', WHERE WHAT IT READS IS OF BULK AT MOST 1048576: true; the input reads as it did. -/
def tracerGivesUptoRow : OpenClaim := { program := "ytplhligfkbgllaadoor", sum := "d4a69f41be988c5ffffa74c6e49307412080bb86198906091a6ba0358805599a", func := "tarn/tarnlaw17.TracerGives", spec := "tracerGives", inPlace := ["math.Float64frombits", "math.Float64bits", "math.sqrt", "math.archFloor", "math.archTrunc"], unfollowed := true, recurses := true, named := ["math/bits.divideError", "math/bits.overflowError", "tarn/cube.frames", "tarn/geom.frames"], plainKeys := false, apart := false, laid := [("tarn/cube.frames", laid_tarn_cube_frames), ("tarn/geom.frames", laid_tarn_geom_frames)], narrowed := true }
def TracerGivesUptoSaid : Prop := tracerGivesUptoRow.holds Tryd.pinned (OpenSpec.upto tracerGivesSpec)

/-- 'tarnlaw17.TracerKeeps', WHERE WHAT IT READS IS OF BULK AT MOST 1048576: true; the input reads as it did. -/
def tracerKeepsUptoRow : OpenClaim := { program := "ytplhligfkbgllaadoor", sum := "d4a69f41be988c5ffffa74c6e49307412080bb86198906091a6ba0358805599a", func := "tarn/tarnlaw17.TracerKeeps", spec := "tracerKeeps", inPlace := ["math.Float64frombits", "math.Float64bits", "math.sqrt", "math.archFloor", "math.archTrunc"], unfollowed := true, recurses := true, named := ["math/bits.divideError", "math/bits.overflowError", "tarn/cube.frames", "tarn/geom.frames"], plainKeys := false, apart := false, laid := [("tarn/cube.frames", laid_tarn_cube_frames), ("tarn/geom.frames", laid_tarn_geom_frames)], narrowed := true }
def TracerKeepsUptoSaid : Prop := tracerKeepsUptoRow.holds Tryd.pinned (OpenSpec.upto tracerKeepsSpec)

end Rows
end Go.Proofs.YtplhligfkbgllaaDoor
