/-
  No cell of these rows narrows 'for every input' (looked for: loops, veiled, ifaces, maps, wideKeys, modest, calm, conditions, laid).
  DERIVED. THE GIVEN ROWS OF THIS SEAT. 5 by the template 'for every input the law returns true; each argument reads behind the call as it read before'; 0 by the template 'total and deterministic' (their statements: YtmpkhnblifgokaaTotals.lean).
  GIVEN WITH THE SEED: the statements are not yours to turn. If you find one false, say at which input.
  Laid BY PROGRAM, IN A SANDBOX (cutbox-rows.mjs): the forced cells as the released guide's own fill.sh prints them over the translation a009601550b5454d… (all of the seat's roots in one cut). By AI agents, Wed Nov 11 2026. No macro, syntax, notation, axiom, sorry.
-/
import Derived.Test.YtmpkhnblifgokaaChecked
import GoSem.Claim
import GoSem.ClaimJoined
import GoSem.ClaimMapViews
import Derived.JoinedTies
import Derived.KernelRfl
namespace Go.Proofs.Ytmpkhnblifgokaa
/- THE CELL 'sum', in the pinned program and in every row, IS THE sha256 OF THE DUMP (.gsa) THAT YtmpkhnblifgokaaProg.lean LOADS. Nothing in Lean hashes anything: it is a label: what it is worth is what the hold of that sum in a sandbox is worth. -/
noncomputable def Try.pinned : Pinned := { name := "ytmpkhnblifgokaa", sum := "a009601550b5454df6676a98b06bb678ac04c1d9c22ed9d19ab19968be55da7d", checked := Try.checked }
namespace Rows
def none {H : Type} : Left H := { results := [], args := [] }

/-- 'tarnlaw17.TracerTakes': WHATEVER THE INPUT: true; the input reads as it did. -/
def tracerTakesSpec : ChangeSpec := { name := "tracerTakes", fn := fun _ => fun
  | [d1, d2, d3] => { results := [.lit (.bool true)], args := [d1, d2, d3] }
  | _ => none }
def tracerTakesRow : OpenClaim := { program := "ytmpkhnblifgokaa", sum := "a009601550b5454df6676a98b06bb678ac04c1d9c22ed9d19ab19968be55da7d", func := "tarn/tarnlaw17.TracerTakes", spec := "tracerTakes", named := ["math/bits.divideError", "math/bits.overflowError"], apart := false }
def TracerTakesSaid : Prop := tracerTakesRow.holds Try.pinned (OpenSpec.ofChange tracerTakesSpec)

/-- ITS FALSE NEIGHBOUR: 'it returns false'. Refute it at one input. -/
def tracerTakesWrong : ChangeSpec := { name := "tracerTakes", fn := fun _ => fun
  | [d1, d2, d3] => { results := [.lit (.bool false)], args := [d1, d2, d3] }
  | _ => none }
def TracerTakesWrongFalsely : Prop := tracerTakesRow.holds Try.pinned (OpenSpec.ofChange tracerTakesWrong)

/-- 'tarnlaw17.TracerParts': WHATEVER THE INPUT: true; the input reads as it did. -/
def tracerPartsSpec : ChangeSpec := { name := "tracerParts", fn := fun _ => fun
  | [d1, d2, d3] => { results := [.lit (.bool true)], args := [d1, d2, d3] }
  | _ => none }
def tracerPartsRow : OpenClaim := { program := "ytmpkhnblifgokaa", sum := "a009601550b5454df6676a98b06bb678ac04c1d9c22ed9d19ab19968be55da7d", func := "tarn/tarnlaw17.TracerParts", spec := "tracerParts", named := ["math/bits.divideError", "math/bits.overflowError"], apart := false }
def TracerPartsSaid : Prop := tracerPartsRow.holds Try.pinned (OpenSpec.ofChange tracerPartsSpec)

/-- ITS FALSE NEIGHBOUR: 'it returns false'. Refute it at one input. -/
def tracerPartsWrong : ChangeSpec := { name := "tracerParts", fn := fun _ => fun
  | [d1, d2, d3] => { results := [.lit (.bool false)], args := [d1, d2, d3] }
  | _ => none }
def TracerPartsWrongFalsely : Prop := tracerPartsRow.holds Try.pinned (OpenSpec.ofChange tracerPartsWrong)

/-- 'tarnlaw14.ShareParts': WHATEVER THE INPUT: true; the input reads as it did. -/
def sharePartsSpec : ChangeSpec := { name := "shareParts", fn := fun _ => fun
  | [d] => { results := [.lit (.bool true)], args := [d] }
  | _ => none }
def sharePartsRow : OpenClaim := { program := "ytmpkhnblifgokaa", sum := "a009601550b5454df6676a98b06bb678ac04c1d9c22ed9d19ab19968be55da7d", func := "tarn/tarnlaw14.ShareParts", spec := "shareParts", named := ["math/bits.divideError", "math/bits.overflowError"], apart := false }
def SharePartsSaid : Prop := sharePartsRow.holds Try.pinned (OpenSpec.ofChange sharePartsSpec)

/-- ITS FALSE NEIGHBOUR: 'it returns false'. Refute it at one input. -/
def sharePartsWrong : ChangeSpec := { name := "shareParts", fn := fun _ => fun
  | [d] => { results := [.lit (.bool false)], args := [d] }
  | _ => none }
def SharePartsWrongFalsely : Prop := sharePartsRow.holds Try.pinned (OpenSpec.ofChange sharePartsWrong)

/-- 'tarnlaw14.ShareWhole': WHATEVER THE INPUT: true; the input reads as it did. -/
def shareWholeSpec : ChangeSpec := { name := "shareWhole", fn := fun _ => fun
  | [d1, d2] => { results := [.lit (.bool true)], args := [d1, d2] }
  | _ => none }
def shareWholeRow : OpenClaim := { program := "ytmpkhnblifgokaa", sum := "a009601550b5454df6676a98b06bb678ac04c1d9c22ed9d19ab19968be55da7d", func := "tarn/tarnlaw14.ShareWhole", spec := "shareWhole", named := ["math/bits.divideError", "math/bits.overflowError"], apart := false }
def ShareWholeSaid : Prop := shareWholeRow.holds Try.pinned (OpenSpec.ofChange shareWholeSpec)

/-- ITS FALSE NEIGHBOUR: 'it returns false'. Refute it at one input. -/
def shareWholeWrong : ChangeSpec := { name := "shareWhole", fn := fun _ => fun
  | [d1, d2] => { results := [.lit (.bool false)], args := [d1, d2] }
  | _ => none }
def ShareWholeWrongFalsely : Prop := shareWholeRow.holds Try.pinned (OpenSpec.ofChange shareWholeWrong)

/-- 'tarnlaw14.ShareCuts': WHATEVER THE INPUT: true; the input reads as it did. -/
def shareCutsSpec : ChangeSpec := { name := "shareCuts", fn := fun _ => fun
  | [d1, d2] => { results := [.lit (.bool true)], args := [d1, d2] }
  | _ => none }
def shareCutsRow : OpenClaim := { program := "ytmpkhnblifgokaa", sum := "a009601550b5454df6676a98b06bb678ac04c1d9c22ed9d19ab19968be55da7d", func := "tarn/tarnlaw14.ShareCuts", spec := "shareCuts", named := ["math/bits.divideError", "math/bits.overflowError"], apart := false }
def ShareCutsSaid : Prop := shareCutsRow.holds Try.pinned (OpenSpec.ofChange shareCutsSpec)

/-- ITS FALSE NEIGHBOUR: 'it returns false'. Refute it at one input. -/
def shareCutsWrong : ChangeSpec := { name := "shareCuts", fn := fun _ => fun
  | [d1, d2] => { results := [.lit (.bool false)], args := [d1, d2] }
  | _ => none }
def ShareCutsWrongFalsely : Prop := shareCutsRow.holds Try.pinned (OpenSpec.ofChange shareCutsWrong)

/- THE SECOND FORM. 'bulk': how many values and letters a reading holds, each counted each time it is reached (what is shared counts as often as it is met; a slice's spare places count too). A statement '..UptoSaid' is the law's where the arguments, and the package variables that the reading takes, are together of bulk at most 1048576: NARROWER than '..Said'. Prove '..Said' where nothing that the law and all that it calls make is longer than what came in: it says more and counts as full. Else prove '..UptoSaid'. A law counts once. -/
mutual
def uptoBulk {H : Type} : DataW H → Nat
  | .lit (.string bytes) => bytes.length + 1
  | .lit _ => 1
  | .nil => 1
  | .ptr d => uptoBulk d + 1
  | .slice elems spare => uptoBulkAll elems + uptoBulkAll spare + 1
  | .agg parts => uptoBulkAll parts + 1
  | .iface _ d => uptoBulk d + 1
  | .map entries => uptoBulkEntries entries + 1
  | .held _ => 1
def uptoBulkAll {H : Type} : List (DataW H) → Nat
  | [] => 0
  | d :: r => uptoBulk d + uptoBulkAll r
def uptoBulkEntries {H : Type} : List (Lit × DataW H) → Nat
  | [] => 0
  | x :: r => uptoBulkEntry x + uptoBulkEntries r
def uptoBulkEntry {H : Type} : Lit × DataW H → Nat
  | (.string bytes, d) => bytes.length + uptoBulk d + 1
  | (_, d) => uptoBulk d + 1
 end
def uptoSmall : (H : Type) → List (DataW H) → Bool := fun _ ds => decide (uptoBulkAll ds ≤ 1048576)
def OpenSpec.upto (s : _root_.Go.ChangeSpec) : _root_.Go.OpenSpec := { _root_.Go.OpenSpec.ofChange s with cond := some uptoSmall }

/-- 'tarnlaw17.TracerTakes', WHERE WHAT IT READS IS OF BULK AT MOST 1048576: true; the input reads as it did. -/
def tracerTakesUptoRow : OpenClaim := { program := "ytmpkhnblifgokaa", sum := "a009601550b5454df6676a98b06bb678ac04c1d9c22ed9d19ab19968be55da7d", func := "tarn/tarnlaw17.TracerTakes", spec := "tracerTakes", named := ["math/bits.divideError", "math/bits.overflowError"], apart := false, narrowed := true }
def TracerTakesUptoSaid : Prop := tracerTakesUptoRow.holds Try.pinned (OpenSpec.upto tracerTakesSpec)

/-- 'tarnlaw17.TracerParts', WHERE WHAT IT READS IS OF BULK AT MOST 1048576: true; the input reads as it did. -/
def tracerPartsUptoRow : OpenClaim := { program := "ytmpkhnblifgokaa", sum := "a009601550b5454df6676a98b06bb678ac04c1d9c22ed9d19ab19968be55da7d", func := "tarn/tarnlaw17.TracerParts", spec := "tracerParts", named := ["math/bits.divideError", "math/bits.overflowError"], apart := false, narrowed := true }
def TracerPartsUptoSaid : Prop := tracerPartsUptoRow.holds Try.pinned (OpenSpec.upto tracerPartsSpec)

/-- 'tarnlaw14.ShareParts', WHERE WHAT IT READS IS OF BULK AT MOST 1048576: true; the input reads as it did. -/
def sharePartsUptoRow : OpenClaim := { program := "ytmpkhnblifgokaa", sum := "a009601550b5454df6676a98b06bb678ac04c1d9c22ed9d19ab19968be55da7d", func := "tarn/tarnlaw14.ShareParts", spec := "shareParts", named := ["math/bits.divideError", "math/bits.overflowError"], apart := false, narrowed := true }
def SharePartsUptoSaid : Prop := sharePartsUptoRow.holds Try.pinned (OpenSpec.upto sharePartsSpec)

/-- 'tarnlaw14.ShareWhole', WHERE WHAT IT READS IS OF BULK AT MOST 1048576: true; the input reads as it did. -/
def shareWholeUptoRow : OpenClaim := { program := "ytmpkhnblifgokaa", sum := "a009601550b5454df6676a98b06bb678ac04c1d9c22ed9d19ab19968be55da7d", func := "tarn/tarnlaw14.ShareWhole", spec := "shareWhole", named := ["math/bits.divideError", "math/bits.overflowError"], apart := false, narrowed := true }
def ShareWholeUptoSaid : Prop := shareWholeUptoRow.holds Try.pinned (OpenSpec.upto shareWholeSpec)

/-- 'tarnlaw14.ShareCuts', WHERE WHAT IT READS IS OF BULK AT MOST 1048576: true; the input reads as it did. -/
def shareCutsUptoRow : OpenClaim := { program := "ytmpkhnblifgokaa", sum := "a009601550b5454df6676a98b06bb678ac04c1d9c22ed9d19ab19968be55da7d", func := "tarn/tarnlaw14.ShareCuts", spec := "shareCuts", named := ["math/bits.divideError", "math/bits.overflowError"], apart := false, narrowed := true }
def ShareCutsUptoSaid : Prop := shareCutsUptoRow.holds Try.pinned (OpenSpec.upto shareCutsSpec)

end Rows
end Go.Proofs.Ytmpkhnblifgokaa
