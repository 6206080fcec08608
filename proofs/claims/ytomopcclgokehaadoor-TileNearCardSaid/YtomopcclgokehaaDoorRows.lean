/-
  NARROWER THAN 'FOR EVERY INPUT', by the rows' own cells (each row's printed sentence says how): TileBytes: laid · TileBack: laid · TileCuts: laid · TileDepths: laid · TileMemory: laid · TileNear: laid.
  DERIVED. THE GIVEN ROWS OF THIS SEAT. 6 by the template 'for every input the law returns true; each argument reads behind the call as it read before'; 0 by the template 'total and deterministic' (their statements: YtomopcclgokehaaDoorTotals.lean).
  GIVEN WITH THE SEED: the statements are not yours to turn. If you find one false, say at which input.
  Laid BY PROGRAM, IN A SANDBOX (cutbox-rows.mjs): the forced cells as the released guide's own fill.sh prints them over the translation c255d96cd7b199bf… (all of the seat's roots in one cut). By AI agents, Wed Nov 11 2026. No macro, syntax, notation, axiom, sorry.
-/
import Derived.Test.YtomopcclgokehaaDoorChecked
import GoSem.Claim
import GoSem.ClaimJoined
import GoSem.ClaimMapViews
import Derived.JoinedTies
import Derived.KernelRfl
namespace Go.Proofs.YtomopcclgokehaaDoor
/- THE CELL 'sum', in the pinned program and in every row, IS THE sha256 OF THE DUMP (.gsa) THAT YtomopcclgokehaaDoorProg.lean LOADS. Nothing in Lean hashes anything: it is a label: what it is worth is what the hold of that sum in a sandbox is worth. -/
noncomputable def Tryd.pinned : Pinned := { name := "ytomopcclgokehaadoor", sum := "c255d96cd7b199bf9918ff83537c25f697287538f8183f25c944d271287978dc", checked := Tryd.checked }
namespace Rows
def none {H : Type} : Left H := { results := [], args := [] }

/- WHAT THE LISTED PACKAGE-LEVEL VARIABLES READ AS WHEN THE CALL BEGINS. Each datum BY PROGRAM (the guide's laid-datum.mjs) off the statement by which the dump's own 'gosem.cut.vars' lays the variable. In a bare row this is a premise. The card (YtomopcclgokehaaDoorCards.lean) ties it to the program's text. -/
def laid_tarn_geom_frames {H : Type} : DataW H := .agg [.agg [.agg [.lit (.int .i64 1), .lit (.int .i64 0), .lit (.int .i64 0)], .agg [.lit (.int .i64 0), .lit (.int .i64 1), .lit (.int .i64 0)], .agg [.lit (.int .i64 0), .lit (.int .i64 0), .lit (.int .i64 1)]], .agg [.agg [.lit (.int .i64 0), .lit (.int .i64 1), .lit (.int .i64 0)], .agg [.lit (.int .i64 (-1)), .lit (.int .i64 0), .lit (.int .i64 0)], .agg [.lit (.int .i64 0), .lit (.int .i64 0), .lit (.int .i64 1)]], .agg [.agg [.lit (.int .i64 (-1)), .lit (.int .i64 0), .lit (.int .i64 0)], .agg [.lit (.int .i64 0), .lit (.int .i64 (-1)), .lit (.int .i64 0)], .agg [.lit (.int .i64 0), .lit (.int .i64 0), .lit (.int .i64 1)]], .agg [.agg [.lit (.int .i64 0), .lit (.int .i64 (-1)), .lit (.int .i64 0)], .agg [.lit (.int .i64 1), .lit (.int .i64 0), .lit (.int .i64 0)], .agg [.lit (.int .i64 0), .lit (.int .i64 0), .lit (.int .i64 1)]], .agg [.agg [.lit (.int .i64 0), .lit (.int .i64 0), .lit (.int .i64 1)], .agg [.lit (.int .i64 0), .lit (.int .i64 1), .lit (.int .i64 0)], .agg [.lit (.int .i64 (-1)), .lit (.int .i64 0), .lit (.int .i64 0)]], .agg [.agg [.lit (.int .i64 0), .lit (.int .i64 0), .lit (.int .i64 (-1))], .agg [.lit (.int .i64 0), .lit (.int .i64 1), .lit (.int .i64 0)], .agg [.lit (.int .i64 1), .lit (.int .i64 0), .lit (.int .i64 0)]]]

/-- 'tarnlaw24.TileBytes': WHATEVER THE INPUT: true; the input reads as it did. -/
def tileBytesSpec : ChangeSpec := { name := "tileBytes", fn := fun _ => fun
  | [d1, d2] => { results := [.lit (.bool true)], args := [d1, d2] }
  | _ => none }
def tileBytesRow : OpenClaim := { program := "ytomopcclgokehaadoor", sum := "c255d96cd7b199bf9918ff83537c25f697287538f8183f25c944d271287978dc", func := "tarn/tarnlaw24.TileBytes", spec := "tileBytes", inPlace := ["math.Float64bits", "math.Float64frombits", "math.sqrt", "math.archFloor", "math.archTrunc", "math.Float32bits"], unfollowed := true, recurses := true, named := ["tarn/geom.frames"], apart := false, laid := [("tarn/geom.frames", laid_tarn_geom_frames)] }
def TileBytesSaid : Prop := tileBytesRow.holds Tryd.pinned (OpenSpec.ofChange tileBytesSpec)

/-- ITS FALSE NEIGHBOUR: 'it returns false'. Refute it at one input. -/
def tileBytesWrong : ChangeSpec := { name := "tileBytes", fn := fun _ => fun
  | [d1, d2] => { results := [.lit (.bool false)], args := [d1, d2] }
  | _ => none }
def TileBytesWrongFalsely : Prop := tileBytesRow.holds Tryd.pinned (OpenSpec.ofChange tileBytesWrong)

/-- 'tarnlaw24.TileBack': WHATEVER THE INPUT: true; the input reads as it did. -/
def tileBackSpec : ChangeSpec := { name := "tileBack", fn := fun _ => fun
  | [d1, d2] => { results := [.lit (.bool true)], args := [d1, d2] }
  | _ => none }
def tileBackRow : OpenClaim := { program := "ytomopcclgokehaadoor", sum := "c255d96cd7b199bf9918ff83537c25f697287538f8183f25c944d271287978dc", func := "tarn/tarnlaw24.TileBack", spec := "tileBack", inPlace := ["math.Float64bits", "math.Float64frombits", "math.sqrt", "math.archFloor", "math.archTrunc", "math.Float32bits"], unfollowed := true, recurses := true, named := ["tarn/geom.frames"], apart := false, laid := [("tarn/geom.frames", laid_tarn_geom_frames)] }
def TileBackSaid : Prop := tileBackRow.holds Tryd.pinned (OpenSpec.ofChange tileBackSpec)

/-- ITS FALSE NEIGHBOUR: 'it returns false'. Refute it at one input. -/
def tileBackWrong : ChangeSpec := { name := "tileBack", fn := fun _ => fun
  | [d1, d2] => { results := [.lit (.bool false)], args := [d1, d2] }
  | _ => none }
def TileBackWrongFalsely : Prop := tileBackRow.holds Tryd.pinned (OpenSpec.ofChange tileBackWrong)

/-- 'tarnlaw24.TileCuts': WHATEVER THE INPUT: true; the input reads as it did. -/
def tileCutsSpec : ChangeSpec := { name := "tileCuts", fn := fun _ => fun
  | [d1, d2, d3] => { results := [.lit (.bool true)], args := [d1, d2, d3] }
  | _ => none }
def tileCutsRow : OpenClaim := { program := "ytomopcclgokehaadoor", sum := "c255d96cd7b199bf9918ff83537c25f697287538f8183f25c944d271287978dc", func := "tarn/tarnlaw24.TileCuts", spec := "tileCuts", inPlace := ["math.Float64bits", "math.Float64frombits", "math.sqrt", "math.archFloor", "math.archTrunc", "math.Float32bits"], unfollowed := true, recurses := true, named := ["tarn/geom.frames"], apart := false, laid := [("tarn/geom.frames", laid_tarn_geom_frames)] }
def TileCutsSaid : Prop := tileCutsRow.holds Tryd.pinned (OpenSpec.ofChange tileCutsSpec)

/-- ITS FALSE NEIGHBOUR: 'it returns false'. Refute it at one input. -/
def tileCutsWrong : ChangeSpec := { name := "tileCuts", fn := fun _ => fun
  | [d1, d2, d3] => { results := [.lit (.bool false)], args := [d1, d2, d3] }
  | _ => none }
def TileCutsWrongFalsely : Prop := tileCutsRow.holds Tryd.pinned (OpenSpec.ofChange tileCutsWrong)

/-- 'tarnlaw24.TileDepths': WHATEVER THE INPUT: true; the input reads as it did. -/
def tileDepthsSpec : ChangeSpec := { name := "tileDepths", fn := fun _ => fun
  | [d1, d2] => { results := [.lit (.bool true)], args := [d1, d2] }
  | _ => none }
def tileDepthsRow : OpenClaim := { program := "ytomopcclgokehaadoor", sum := "c255d96cd7b199bf9918ff83537c25f697287538f8183f25c944d271287978dc", func := "tarn/tarnlaw24.TileDepths", spec := "tileDepths", inPlace := ["math.Float64bits", "math.Float64frombits", "math.sqrt", "math.archFloor", "math.archTrunc", "math.Float32bits"], unfollowed := true, recurses := true, named := ["tarn/geom.frames"], apart := false, laid := [("tarn/geom.frames", laid_tarn_geom_frames)] }
def TileDepthsSaid : Prop := tileDepthsRow.holds Tryd.pinned (OpenSpec.ofChange tileDepthsSpec)

/-- ITS FALSE NEIGHBOUR: 'it returns false'. Refute it at one input. -/
def tileDepthsWrong : ChangeSpec := { name := "tileDepths", fn := fun _ => fun
  | [d1, d2] => { results := [.lit (.bool false)], args := [d1, d2] }
  | _ => none }
def TileDepthsWrongFalsely : Prop := tileDepthsRow.holds Tryd.pinned (OpenSpec.ofChange tileDepthsWrong)

/-- 'tarnlaw24.TileMemory': WHATEVER THE INPUT: true; the input reads as it did. -/
def tileMemorySpec : ChangeSpec := { name := "tileMemory", fn := fun _ => fun
  | [d1, d2, d3] => { results := [.lit (.bool true)], args := [d1, d2, d3] }
  | _ => none }
def tileMemoryRow : OpenClaim := { program := "ytomopcclgokehaadoor", sum := "c255d96cd7b199bf9918ff83537c25f697287538f8183f25c944d271287978dc", func := "tarn/tarnlaw24.TileMemory", spec := "tileMemory", inPlace := ["math.Float64bits", "math.Float64frombits", "math.sqrt", "math.archFloor", "math.archTrunc", "math.Float32bits"], unfollowed := true, recurses := true, named := ["tarn/geom.frames"], apart := false, laid := [("tarn/geom.frames", laid_tarn_geom_frames)] }
def TileMemorySaid : Prop := tileMemoryRow.holds Tryd.pinned (OpenSpec.ofChange tileMemorySpec)

/-- ITS FALSE NEIGHBOUR: 'it returns false'. Refute it at one input. -/
def tileMemoryWrong : ChangeSpec := { name := "tileMemory", fn := fun _ => fun
  | [d1, d2, d3] => { results := [.lit (.bool false)], args := [d1, d2, d3] }
  | _ => none }
def TileMemoryWrongFalsely : Prop := tileMemoryRow.holds Tryd.pinned (OpenSpec.ofChange tileMemoryWrong)

/-- 'tarnlaw24.TileNear': WHATEVER THE INPUT: true; the input reads as it did. -/
def tileNearSpec : ChangeSpec := { name := "tileNear", fn := fun _ => fun
  | [d1, d2] => { results := [.lit (.bool true)], args := [d1, d2] }
  | _ => none }
def tileNearRow : OpenClaim := { program := "ytomopcclgokehaadoor", sum := "c255d96cd7b199bf9918ff83537c25f697287538f8183f25c944d271287978dc", func := "tarn/tarnlaw24.TileNear", spec := "tileNear", inPlace := ["math.Float64bits", "math.Float64frombits", "math.sqrt", "math.archFloor", "math.archTrunc", "math.Float32bits", "math.Float32frombits"], unfollowed := true, recurses := true, named := ["tarn/geom.frames"], apart := false, laid := [("tarn/geom.frames", laid_tarn_geom_frames)] }
def TileNearSaid : Prop := tileNearRow.holds Tryd.pinned (OpenSpec.ofChange tileNearSpec)

/-- ITS FALSE NEIGHBOUR: 'it returns false'. Refute it at one input. -/
def tileNearWrong : ChangeSpec := { name := "tileNear", fn := fun _ => fun
  | [d1, d2] => { results := [.lit (.bool false)], args := [d1, d2] }
  | _ => none }
def TileNearWrongFalsely : Prop := tileNearRow.holds Tryd.pinned (OpenSpec.ofChange tileNearWrong)

/- THE SECOND FORM. 'bulk': how many values and letters a reading holds, each counted each time it is reached (what is shared counts as often as it is met; a slice's spare places count too). A statement '..UptoSaid' is the law's where the arguments, and the package variables that the reading takes, are together of bulk at most 1048576: NARROWER than '..Said'. Prove '..Said' where nothing that the law and all that it calls make is longer than what came in: it says more and counts as full. Else prove '..UptoSaid'. A law counts once. -/
mutual
def uptoBulk {H : Type} : DataW H → Nat
  | .lit (.string bytes) => bytes.length + 1
  | .lit _ => 1
  | .nil => 1
  | .ptr d => uptoBulk d + 1
  | .slice elems spare => uptoBulkAll elems + uptoBulkAll spare + 1
  | .agg parts => uptoBulkAll parts + 1
  | .iface _ d => uptoBulk d + 1
  | .map entries => uptoBulkEntries entries + 1
  | .held _ => 1
def uptoBulkAll {H : Type} : List (DataW H) → Nat
  | [] => 0
  | d :: r => uptoBulk d + uptoBulkAll r
def uptoBulkEntries {H : Type} : List (Lit × DataW H) → Nat
  | [] => 0
  | x :: r => uptoBulkEntry x + uptoBulkEntries r
def uptoBulkEntry {H : Type} : Lit × DataW H → Nat
  | (.string bytes, d) => bytes.length + uptoBulk d + 1
  | (_, d) => uptoBulk d + 1
 end
def uptoSmall : (H : Type) → List (DataW H) → Bool := fun _ ds => decide (uptoBulkAll ds ≤ 1048576)
def OpenSpec.upto (s : _root_.Go.ChangeSpec) : _root_.Go.OpenSpec := { _root_.Go.OpenSpec.ofChange s with cond := some uptoSmall }

/-- 'tarnlaw24.TileBytes', WHERE WHAT IT READS IS OF BULK AT MOST 1048576: true; the input reads as it did. -/
def tileBytesUptoRow : OpenClaim := { program := "ytomopcclgokehaadoor", sum := "c255d96cd7b199bf9918ff83537c25f697287538f8183f25c944d271287978dc", func := "tarn/tarnlaw24.TileBytes", spec := "tileBytes", inPlace := ["math.Float64bits", "math.Float64frombits", "math.sqrt", "math.archFloor", "math.archTrunc", "math.Float32bits"], unfollowed := true, recurses := true, named := ["tarn/geom.frames"], apart := false, laid := [("tarn/geom.frames", laid_tarn_geom_frames)], narrowed := true }
def TileBytesUptoSaid : Prop := tileBytesUptoRow.holds Tryd.pinned (OpenSpec.upto tileBytesSpec)

/-- 'tarnlaw24.TileBack', WHERE WHAT IT READS IS OF BULK AT MOST 1048576: true; the input reads as it did. -/
def tileBackUptoRow : OpenClaim := { program := "ytomopcclgokehaadoor", sum := "c255d96cd7b199bf9918ff83537c25f697287538f8183f25c944d271287978dc", func := "tarn/tarnlaw24.TileBack", spec := "tileBack", inPlace := ["math.Float64bits", "math.Float64frombits", "math.sqrt", "math.archFloor", "math.archTrunc", "math.Float32bits"], unfollowed := true, recurses := true, named := ["tarn/geom.frames"], apart := false, laid := [("tarn/geom.frames", laid_tarn_geom_frames)], narrowed := true }
def TileBackUptoSaid : Prop := tileBackUptoRow.holds Tryd.pinned (OpenSpec.upto tileBackSpec)

/-- 'tarnlaw24.TileCuts', WHERE WHAT IT READS IS OF BULK AT MOST 1048576: true; the input reads as it did. -/
def tileCutsUptoRow : OpenClaim := { program := "ytomopcclgokehaadoor", sum := "c255d96cd7b199bf9918ff83537c25f697287538f8183f25c944d271287978dc", func := "tarn/tarnlaw24.TileCuts", spec := "tileCuts", inPlace := ["math.Float64bits", "math.Float64frombits", "math.sqrt", "math.archFloor", "math.archTrunc", "math.Float32bits"], unfollowed := true, recurses := true, named := ["tarn/geom.frames"], apart := false, laid := [("tarn/geom.frames", laid_tarn_geom_frames)], narrowed := true }
def TileCutsUptoSaid : Prop := tileCutsUptoRow.holds Tryd.pinned (OpenSpec.upto tileCutsSpec)

/-- 'tarnlaw24.TileDepths', WHERE WHAT IT READS IS OF BULK AT MOST 1048576: true; the input reads as it did. -/
def tileDepthsUptoRow : OpenClaim := { program := "ytomopcclgokehaadoor", sum := "c255d96cd7b199bf9918ff83537c25f697287538f8183f25c944d271287978dc", func := "tarn/tarnlaw24.TileDepths", spec := "tileDepths", inPlace := ["math.Float64bits", "math.Float64frombits", "math.sqrt", "math.archFloor", "math.archTrunc", "math.Float32bits"], unfollowed := true, recurses := true, named := ["tarn/geom.frames"], apart := false, laid := [("tarn/geom.frames", laid_tarn_geom_frames)], narrowed := true }
def TileDepthsUptoSaid : Prop := tileDepthsUptoRow.holds Tryd.pinned (OpenSpec.upto tileDepthsSpec)

/-- 'tarnlaw24.TileMemory', WHERE WHAT IT READS IS OF BULK AT MOST 1048576: true; the input reads as it did. -/
def tileMemoryUptoRow : OpenClaim := { program := "ytomopcclgokehaadoor", sum := "c255d96cd7b199bf9918ff83537c25f697287538f8183f25c944d271287978dc", func := "tarn/tarnlaw24.TileMemory", spec := "tileMemory", inPlace := ["math.Float64bits", "math.Float64frombits", "math.sqrt", "math.archFloor", "math.archTrunc", "math.Float32bits"], unfollowed := true, recurses := true, named := ["tarn/geom.frames"], apart := false, laid := [("tarn/geom.frames", laid_tarn_geom_frames)], narrowed := true }
def TileMemoryUptoSaid : Prop := tileMemoryUptoRow.holds Tryd.pinned (OpenSpec.upto tileMemorySpec)

/-- 'tarnlaw24.TileNear', WHERE WHAT IT READS IS OF BULK AT MOST 1048576: true; the input reads as it did. -/
def tileNearUptoRow : OpenClaim := { program := "ytomopcclgokehaadoor", sum := "c255d96cd7b199bf9918ff83537c25f697287538f8183f25c944d271287978dc", func := "tarn/tarnlaw24.TileNear", spec := "tileNear", inPlace := ["math.Float64bits", "math.Float64frombits", "math.sqrt", "math.archFloor", "math.archTrunc", "math.Float32bits", "math.Float32frombits"], unfollowed := true, recurses := true, named := ["tarn/geom.frames"], apart := false, laid := [("tarn/geom.frames", laid_tarn_geom_frames)], narrowed := true }
def TileNearUptoSaid : Prop := tileNearUptoRow.holds Tryd.pinned (OpenSpec.upto tileNearSpec)

end Rows
end Go.Proofs.YtomopcclgokehaaDoor
