/-
  No cell of these rows narrows 'for every input' (looked for: loops, veiled, ifaces, maps, wideKeys, modest, calm, conditions, laid).
  DERIVED. THE GIVEN ROWS OF THIS SEAT. 11 by the template 'for every input the law returns true; each argument reads behind the call as it read before'; 0 by the template 'total and deterministic' (their statements: YtkgkckjgdajegaaTotals.lean).
  GIVEN WITH THE SEED: the statements are not yours to turn. If you find one false, say at which input.
  Laid BY PROGRAM, IN A SANDBOX (cutbox-rows.mjs): the forced cells as the released guide's own fill.sh prints them over the translation 8291d9c936ca2030… (all of the seat's roots in one cut). By AI agents, Wed Nov 11 2026. No macro, syntax, notation, axiom, sorry.
-/
import Derived.Test.YtkgkckjgdajegaaChecked
import GoSem.Claim
import GoSem.ClaimJoined
import GoSem.ClaimMapViews
import Derived.JoinedTies
import Derived.KernelRfl
namespace Go.Proofs.Ytkgkckjgdajegaa
/- THE CELL 'sum', in the pinned program and in every row, IS THE sha256 OF THE DUMP (.gsa) THAT YtkgkckjgdajegaaProg.lean LOADS. Nothing in Lean hashes anything: it is a label: what it is worth is what the hold of that sum in a sandbox is worth. -/
noncomputable def Try.pinned : Pinned := { name := "ytkgkckjgdajegaa", sum := "8291d9c936ca20303ef7af3c019ee3861eba3a0f13ae3d0ceeb8986d2bb237e1", checked := Try.checked }
namespace Rows
def none {H : Type} : Left H := { results := [], args := [] }

/-- 'tarnlaw05.SumAll': WHATEVER THE INPUT: true; the input reads as it did. -/
def sumAllSpec : ChangeSpec := { name := "sumAll", fn := fun _ => fun
  | [d] => { results := [.lit (.bool true)], args := [d] }
  | _ => none }
def sumAllRow : OpenClaim := { program := "ytkgkckjgdajegaa", sum := "8291d9c936ca20303ef7af3c019ee3861eba3a0f13ae3d0ceeb8986d2bb237e1", func := "tarn/tarnlaw05.SumAll", spec := "sumAll", inPlace := ["math.Float64frombits", "math.Float64bits"], unfollowed := true, recurses := true, apart := false }
def SumAllSaid : Prop := sumAllRow.holds Try.pinned (OpenSpec.ofChange sumAllSpec)

/-- ITS FALSE NEIGHBOUR: 'it returns false'. Refute it at one input. -/
def sumAllWrong : ChangeSpec := { name := "sumAll", fn := fun _ => fun
  | [d] => { results := [.lit (.bool false)], args := [d] }
  | _ => none }
def SumAllWrongFalsely : Prop := sumAllRow.holds Try.pinned (OpenSpec.ofChange sumAllWrong)

/-- 'tarnlaw05.SumThree': WHATEVER THE INPUT: true; the input reads as it did. -/
def sumThreeSpec : ChangeSpec := { name := "sumThree", fn := fun _ => fun
  | [d1, d2, d3] => { results := [.lit (.bool true)], args := [d1, d2, d3] }
  | _ => none }
def sumThreeRow : OpenClaim := { program := "ytkgkckjgdajegaa", sum := "8291d9c936ca20303ef7af3c019ee3861eba3a0f13ae3d0ceeb8986d2bb237e1", func := "tarn/tarnlaw05.SumThree", spec := "sumThree", inPlace := ["math.Float64frombits", "math.Float64bits"], unfollowed := true, recurses := true, apart := false }
def SumThreeSaid : Prop := sumThreeRow.holds Try.pinned (OpenSpec.ofChange sumThreeSpec)

/-- ITS FALSE NEIGHBOUR: 'it returns false'. Refute it at one input. -/
def sumThreeWrong : ChangeSpec := { name := "sumThree", fn := fun _ => fun
  | [d1, d2, d3] => { results := [.lit (.bool false)], args := [d1, d2, d3] }
  | _ => none }
def SumThreeWrongFalsely : Prop := sumThreeRow.holds Try.pinned (OpenSpec.ofChange sumThreeWrong)

/-- 'tarnlaw05.SumExact': WHATEVER THE INPUT: true; the input reads as it did. -/
def sumExactSpec : ChangeSpec := { name := "sumExact", fn := fun _ => fun
  | [d] => { results := [.lit (.bool true)], args := [d] }
  | _ => none }
def sumExactRow : OpenClaim := { program := "ytkgkckjgdajegaa", sum := "8291d9c936ca20303ef7af3c019ee3861eba3a0f13ae3d0ceeb8986d2bb237e1", func := "tarn/tarnlaw05.SumExact", spec := "sumExact", inPlace := ["math.Float64frombits", "math.Float64bits"], unfollowed := true, recurses := true, apart := false }
def SumExactSaid : Prop := sumExactRow.holds Try.pinned (OpenSpec.ofChange sumExactSpec)

/-- ITS FALSE NEIGHBOUR: 'it returns false'. Refute it at one input. -/
def sumExactWrong : ChangeSpec := { name := "sumExact", fn := fun _ => fun
  | [d] => { results := [.lit (.bool false)], args := [d] }
  | _ => none }
def SumExactWrongFalsely : Prop := sumExactRow.holds Try.pinned (OpenSpec.ofChange sumExactWrong)

/-- 'tarnlaw05.SumGoesOn': WHATEVER THE INPUT: true; the input reads as it did. -/
def sumGoesOnSpec : ChangeSpec := { name := "sumGoesOn", fn := fun _ => fun
  | [d1, d2] => { results := [.lit (.bool true)], args := [d1, d2] }
  | _ => none }
def sumGoesOnRow : OpenClaim := { program := "ytkgkckjgdajegaa", sum := "8291d9c936ca20303ef7af3c019ee3861eba3a0f13ae3d0ceeb8986d2bb237e1", func := "tarn/tarnlaw05.SumGoesOn", spec := "sumGoesOn", inPlace := ["math.Float64frombits", "math.Float64bits"], unfollowed := true, recurses := true, apart := false }
def SumGoesOnSaid : Prop := sumGoesOnRow.holds Try.pinned (OpenSpec.ofChange sumGoesOnSpec)

/-- ITS FALSE NEIGHBOUR: 'it returns false'. Refute it at one input. -/
def sumGoesOnWrong : ChangeSpec := { name := "sumGoesOn", fn := fun _ => fun
  | [d1, d2] => { results := [.lit (.bool false)], args := [d1, d2] }
  | _ => none }
def SumGoesOnWrongFalsely : Prop := sumGoesOnRow.holds Try.pinned (OpenSpec.ofChange sumGoesOnWrong)

/-- 'tarnlaw05.SumNothing': WHATEVER THE INPUT: true; the input reads as it did. -/
def sumNothingSpec : ChangeSpec := { name := "sumNothing", fn := fun _ => fun
  | [d1, d2] => { results := [.lit (.bool true)], args := [d1, d2] }
  | _ => none }
def sumNothingRow : OpenClaim := { program := "ytkgkckjgdajegaa", sum := "8291d9c936ca20303ef7af3c019ee3861eba3a0f13ae3d0ceeb8986d2bb237e1", func := "tarn/tarnlaw05.SumNothing", spec := "sumNothing", inPlace := ["math.Float64frombits", "math.Float64bits"], unfollowed := true, recurses := true, apart := false }
def SumNothingSaid : Prop := sumNothingRow.holds Try.pinned (OpenSpec.ofChange sumNothingSpec)

/-- ITS FALSE NEIGHBOUR: 'it returns false'. Refute it at one input. -/
def sumNothingWrong : ChangeSpec := { name := "sumNothing", fn := fun _ => fun
  | [d1, d2] => { results := [.lit (.bool false)], args := [d1, d2] }
  | _ => none }
def SumNothingWrongFalsely : Prop := sumNothingRow.holds Try.pinned (OpenSpec.ofChange sumNothingWrong)

/-- 'tarnlaw05.SumKeeps': WHATEVER THE INPUT: true; the input reads as it did. -/
def sumKeepsSpec : ChangeSpec := { name := "sumKeeps", fn := fun _ => fun
  | [d] => { results := [.lit (.bool true)], args := [d] }
  | _ => none }
def sumKeepsRow : OpenClaim := { program := "ytkgkckjgdajegaa", sum := "8291d9c936ca20303ef7af3c019ee3861eba3a0f13ae3d0ceeb8986d2bb237e1", func := "tarn/tarnlaw05.SumKeeps", spec := "sumKeeps", inPlace := ["math.Float64frombits", "math.Float64bits"], unfollowed := true, recurses := true, apart := false }
def SumKeepsSaid : Prop := sumKeepsRow.holds Try.pinned (OpenSpec.ofChange sumKeepsSpec)

/-- ITS FALSE NEIGHBOUR: 'it returns false'. Refute it at one input. -/
def sumKeepsWrong : ChangeSpec := { name := "sumKeeps", fn := fun _ => fun
  | [d] => { results := [.lit (.bool false)], args := [d] }
  | _ => none }
def SumKeepsWrongFalsely : Prop := sumKeepsRow.holds Try.pinned (OpenSpec.ofChange sumKeepsWrong)

/-- 'tarnlaw07.VecAll': WHATEVER THE INPUT: true; the input reads as it did. -/
def vecAllSpec : ChangeSpec := { name := "vecAll", fn := fun _ => fun
  | [d] => { results := [.lit (.bool true)], args := [d] }
  | _ => none }
def vecAllRow : OpenClaim := { program := "ytkgkckjgdajegaa", sum := "8291d9c936ca20303ef7af3c019ee3861eba3a0f13ae3d0ceeb8986d2bb237e1", func := "tarn/tarnlaw07.VecAll", spec := "vecAll", inPlace := ["math.Float64bits", "math.Float64frombits", "math.sqrt"], unfollowed := true, recurses := true, apart := false }
def VecAllSaid : Prop := vecAllRow.holds Try.pinned (OpenSpec.ofChange vecAllSpec)

/-- ITS FALSE NEIGHBOUR: 'it returns false'. Refute it at one input. -/
def vecAllWrong : ChangeSpec := { name := "vecAll", fn := fun _ => fun
  | [d] => { results := [.lit (.bool false)], args := [d] }
  | _ => none }
def VecAllWrongFalsely : Prop := vecAllRow.holds Try.pinned (OpenSpec.ofChange vecAllWrong)

/-- 'tarnlaw07.VecAxes': WHATEVER THE INPUT: true; the input reads as it did. -/
def vecAxesSpec : ChangeSpec := { name := "vecAxes", fn := fun _ => fun
  | [d1, d2] => { results := [.lit (.bool true)], args := [d1, d2] }
  | _ => none }
def vecAxesRow : OpenClaim := { program := "ytkgkckjgdajegaa", sum := "8291d9c936ca20303ef7af3c019ee3861eba3a0f13ae3d0ceeb8986d2bb237e1", func := "tarn/tarnlaw07.VecAxes", spec := "vecAxes", inPlace := ["math.Float64bits", "math.Float64frombits", "math.sqrt"], unfollowed := true, recurses := true, apart := false }
def VecAxesSaid : Prop := vecAxesRow.holds Try.pinned (OpenSpec.ofChange vecAxesSpec)

/-- ITS FALSE NEIGHBOUR: 'it returns false'. Refute it at one input. -/
def vecAxesWrong : ChangeSpec := { name := "vecAxes", fn := fun _ => fun
  | [d1, d2] => { results := [.lit (.bool false)], args := [d1, d2] }
  | _ => none }
def VecAxesWrongFalsely : Prop := vecAxesRow.holds Try.pinned (OpenSpec.ofChange vecAxesWrong)

/-- 'tarnlaw07.VecOpposite': WHATEVER THE INPUT: true; the input reads as it did. -/
def vecOppositeSpec : ChangeSpec := { name := "vecOpposite", fn := fun _ => fun
  | [d1, d2] => { results := [.lit (.bool true)], args := [d1, d2] }
  | _ => none }
def vecOppositeRow : OpenClaim := { program := "ytkgkckjgdajegaa", sum := "8291d9c936ca20303ef7af3c019ee3861eba3a0f13ae3d0ceeb8986d2bb237e1", func := "tarn/tarnlaw07.VecOpposite", spec := "vecOpposite", inPlace := ["math.Float64bits", "math.Float64frombits", "math.sqrt"], unfollowed := true, recurses := true, apart := false }
def VecOppositeSaid : Prop := vecOppositeRow.holds Try.pinned (OpenSpec.ofChange vecOppositeSpec)

/-- ITS FALSE NEIGHBOUR: 'it returns false'. Refute it at one input. -/
def vecOppositeWrong : ChangeSpec := { name := "vecOpposite", fn := fun _ => fun
  | [d1, d2] => { results := [.lit (.bool false)], args := [d1, d2] }
  | _ => none }
def VecOppositeWrongFalsely : Prop := vecOppositeRow.holds Try.pinned (OpenSpec.ofChange vecOppositeWrong)

/-- 'tarnlaw07.VecScaled': WHATEVER THE INPUT: true; the input reads as it did. -/
def vecScaledSpec : ChangeSpec := { name := "vecScaled", fn := fun _ => fun
  | [d1, d2] => { results := [.lit (.bool true)], args := [d1, d2] }
  | _ => none }
def vecScaledRow : OpenClaim := { program := "ytkgkckjgdajegaa", sum := "8291d9c936ca20303ef7af3c019ee3861eba3a0f13ae3d0ceeb8986d2bb237e1", func := "tarn/tarnlaw07.VecScaled", spec := "vecScaled", inPlace := ["math.Float64bits", "math.Float64frombits", "math.sqrt"], unfollowed := true, recurses := true, apart := false }
def VecScaledSaid : Prop := vecScaledRow.holds Try.pinned (OpenSpec.ofChange vecScaledSpec)

/-- ITS FALSE NEIGHBOUR: 'it returns false'. Refute it at one input. -/
def vecScaledWrong : ChangeSpec := { name := "vecScaled", fn := fun _ => fun
  | [d1, d2] => { results := [.lit (.bool false)], args := [d1, d2] }
  | _ => none }
def VecScaledWrongFalsely : Prop := vecScaledRow.holds Try.pinned (OpenSpec.ofChange vecScaledWrong)

/-- 'tarnlaw07.VecLengths': WHATEVER THE INPUT: true; the input reads as it did. -/
def vecLengthsSpec : ChangeSpec := { name := "vecLengths", fn := fun _ => fun
  | [d] => { results := [.lit (.bool true)], args := [d] }
  | _ => none }
def vecLengthsRow : OpenClaim := { program := "ytkgkckjgdajegaa", sum := "8291d9c936ca20303ef7af3c019ee3861eba3a0f13ae3d0ceeb8986d2bb237e1", func := "tarn/tarnlaw07.VecLengths", spec := "vecLengths", inPlace := ["math.Float64bits", "math.Float64frombits", "math.sqrt"], unfollowed := true, recurses := true, apart := false }
def VecLengthsSaid : Prop := vecLengthsRow.holds Try.pinned (OpenSpec.ofChange vecLengthsSpec)

/-- ITS FALSE NEIGHBOUR: 'it returns false'. Refute it at one input. -/
def vecLengthsWrong : ChangeSpec := { name := "vecLengths", fn := fun _ => fun
  | [d] => { results := [.lit (.bool false)], args := [d] }
  | _ => none }
def VecLengthsWrongFalsely : Prop := vecLengthsRow.holds Try.pinned (OpenSpec.ofChange vecLengthsWrong)

/- THE SECOND FORM. 'bulk': how many values and letters a reading holds, each counted each time it is reached (what is shared counts as often as it is met; a slice's spare places count too). A statement '..UptoSaid' is the law's where the arguments, and the package variables that the reading takes, are together of bulk at most 1048576: NARROWER than '..Said'. Prove '..Said' where nothing that the law and all that it calls make is longer than what came in: it says more and counts as full. Else prove '..UptoSaid'. A law counts once. -/
mutual
def uptoBulk {H : Type} : DataW H → Nat
  | .lit (.string bytes) => bytes.length + 1
  | .lit _ => 1
  | .nil => 1
  | .ptr d => uptoBulk d + 1
  | .slice elems spare => uptoBulkAll elems + uptoBulkAll spare + 1
  | .agg parts => uptoBulkAll parts + 1
  | .iface _ d => uptoBulk d + 1
  | .map entries => uptoBulkEntries entries + 1
  | .held _ => 1
def uptoBulkAll {H : Type} : List (DataW H) → Nat
  | [] => 0
  | d :: r => uptoBulk d + uptoBulkAll r
def uptoBulkEntries {H : Type} : List (Lit × DataW H) → Nat
  | [] => 0
  | x :: r => uptoBulkEntry x + uptoBulkEntries r
def uptoBulkEntry {H : Type} : Lit × DataW H → Nat
  | (.string bytes, d) => bytes.length + uptoBulk d + 1
  | (_, d) => uptoBulk d + 1
 end
def uptoSmall : (H : Type) → List (DataW H) → Bool := fun _ ds => decide (uptoBulkAll ds ≤ 1048576)
def OpenSpec.upto (s : _root_.Go.ChangeSpec) : _root_.Go.OpenSpec := { _root_.Go.OpenSpec.ofChange s with cond := some uptoSmall }

/-- 'tarnlaw05.SumAll', WHERE WHAT IT READS IS OF BULK AT MOST 1048576: true; the input reads as it did. -/
def sumAllUptoRow : OpenClaim := { program := "ytkgkckjgdajegaa", sum := "8291d9c936ca20303ef7af3c019ee3861eba3a0f13ae3d0ceeb8986d2bb237e1", func := "tarn/tarnlaw05.SumAll", spec := "sumAll", inPlace := ["math.Float64frombits", "math.Float64bits"], unfollowed := true, recurses := true, apart := false, narrowed := true }
def SumAllUptoSaid : Prop := sumAllUptoRow.holds Try.pinned (OpenSpec.upto sumAllSpec)

/-- 'tarnlaw05.SumThree', WHERE WHAT IT READS IS OF BULK AT MOST 1048576: true; the input reads as it did. -/
def sumThreeUptoRow : OpenClaim := { program := "ytkgkckjgdajegaa", sum := "8291d9c936ca20303ef7af3c019ee3861eba3a0f13ae3d0ceeb8986d2bb237e1", func := "tarn/tarnlaw05.SumThree", spec := "sumThree", inPlace := ["math.Float64frombits", "math.Float64bits"], unfollowed := true, recurses := true, apart := false, narrowed := true }
def SumThreeUptoSaid : Prop := sumThreeUptoRow.holds Try.pinned (OpenSpec.upto sumThreeSpec)

/-- 'tarnlaw05.SumExact', WHERE WHAT IT READS IS OF BULK AT MOST 1048576: true; the input reads as it did. -/
def sumExactUptoRow : OpenClaim := { program := "ytkgkckjgdajegaa", sum := "8291d9c936ca20303ef7af3c019ee3861eba3a0f13ae3d0ceeb8986d2bb237e1", func := "tarn/tarnlaw05.SumExact", spec := "sumExact", inPlace := ["math.Float64frombits", "math.Float64bits"], unfollowed := true, recurses := true, apart := false, narrowed := true }
def SumExactUptoSaid : Prop := sumExactUptoRow.holds Try.pinned (OpenSpec.upto sumExactSpec)

/-- 'tarnlaw05.SumGoesOn', WHERE WHAT IT READS IS OF BULK AT MOST 1048576: true; the input reads as it did. -/
def sumGoesOnUptoRow : OpenClaim := { program := "ytkgkckjgdajegaa", sum := "8291d9c936ca20303ef7af3c019ee3861eba3a0f13ae3d0ceeb8986d2bb237e1", func := "tarn/tarnlaw05.SumGoesOn", spec := "sumGoesOn", inPlace := ["math.Float64frombits", "math.Float64bits"], unfollowed := true, recurses := true, apart := false, narrowed := true }
def SumGoesOnUptoSaid : Prop := sumGoesOnUptoRow.holds Try.pinned (OpenSpec.upto sumGoesOnSpec)

/-- 'tarnlaw05.SumNothing', WHERE WHAT IT READS IS OF BULK AT MOST 1048576: true; the input reads as it did. -/
def sumNothingUptoRow : OpenClaim := { program := "ytkgkckjgdajegaa", sum := "8291d9c936ca20303ef7af3c019ee3861eba3a0f13ae3d0ceeb8986d2bb237e1", func := "tarn/tarnlaw05.SumNothing", spec := "sumNothing", inPlace := ["math.Float64frombits", "math.Float64bits"], unfollowed := true, recurses := true, apart := false, narrowed := true }
def SumNothingUptoSaid : Prop := sumNothingUptoRow.holds Try.pinned (OpenSpec.upto sumNothingSpec)

/-- 'tarnlaw05.SumKeeps', WHERE WHAT IT READS IS OF BULK AT MOST 1048576: true; the input reads as it did. -/
def sumKeepsUptoRow : OpenClaim := { program := "ytkgkckjgdajegaa", sum := "8291d9c936ca20303ef7af3c019ee3861eba3a0f13ae3d0ceeb8986d2bb237e1", func := "tarn/tarnlaw05.SumKeeps", spec := "sumKeeps", inPlace := ["math.Float64frombits", "math.Float64bits"], unfollowed := true, recurses := true, apart := false, narrowed := true }
def SumKeepsUptoSaid : Prop := sumKeepsUptoRow.holds Try.pinned (OpenSpec.upto sumKeepsSpec)

/-- 'tarnlaw07.VecAll', WHERE WHAT IT READS IS OF BULK AT MOST 1048576: true; the input reads as it did. -/
def vecAllUptoRow : OpenClaim := { program := "ytkgkckjgdajegaa", sum := "8291d9c936ca20303ef7af3c019ee3861eba3a0f13ae3d0ceeb8986d2bb237e1", func := "tarn/tarnlaw07.VecAll", spec := "vecAll", inPlace := ["math.Float64bits", "math.Float64frombits", "math.sqrt"], unfollowed := true, recurses := true, apart := false, narrowed := true }
def VecAllUptoSaid : Prop := vecAllUptoRow.holds Try.pinned (OpenSpec.upto vecAllSpec)

/-- 'tarnlaw07.VecAxes', WHERE WHAT IT READS IS OF BULK AT MOST 1048576: true; the input reads as it did. -/
def vecAxesUptoRow : OpenClaim := { program := "ytkgkckjgdajegaa", sum := "8291d9c936ca20303ef7af3c019ee3861eba3a0f13ae3d0ceeb8986d2bb237e1", func := "tarn/tarnlaw07.VecAxes", spec := "vecAxes", inPlace := ["math.Float64bits", "math.Float64frombits", "math.sqrt"], unfollowed := true, recurses := true, apart := false, narrowed := true }
def VecAxesUptoSaid : Prop := vecAxesUptoRow.holds Try.pinned (OpenSpec.upto vecAxesSpec)

/-- 'tarnlaw07.VecOpposite', WHERE WHAT IT READS IS OF BULK AT MOST 1048576: true; the input reads as it did. -/
def vecOppositeUptoRow : OpenClaim := { program := "ytkgkckjgdajegaa", sum := "8291d9c936ca20303ef7af3c019ee3861eba3a0f13ae3d0ceeb8986d2bb237e1", func := "tarn/tarnlaw07.VecOpposite", spec := "vecOpposite", inPlace := ["math.Float64bits", "math.Float64frombits", "math.sqrt"], unfollowed := true, recurses := true, apart := false, narrowed := true }
def VecOppositeUptoSaid : Prop := vecOppositeUptoRow.holds Try.pinned (OpenSpec.upto vecOppositeSpec)

/-- 'tarnlaw07.VecScaled', WHERE WHAT IT READS IS OF BULK AT MOST 1048576: true; the input reads as it did. -/
def vecScaledUptoRow : OpenClaim := { program := "ytkgkckjgdajegaa", sum := "8291d9c936ca20303ef7af3c019ee3861eba3a0f13ae3d0ceeb8986d2bb237e1", func := "tarn/tarnlaw07.VecScaled", spec := "vecScaled", inPlace := ["math.Float64bits", "math.Float64frombits", "math.sqrt"], unfollowed := true, recurses := true, apart := false, narrowed := true }
def VecScaledUptoSaid : Prop := vecScaledUptoRow.holds Try.pinned (OpenSpec.upto vecScaledSpec)

/-- 'tarnlaw07.VecLengths', WHERE WHAT IT READS IS OF BULK AT MOST 1048576: true; the input reads as it did. -/
def vecLengthsUptoRow : OpenClaim := { program := "ytkgkckjgdajegaa", sum := "8291d9c936ca20303ef7af3c019ee3861eba3a0f13ae3d0ceeb8986d2bb237e1", func := "tarn/tarnlaw07.VecLengths", spec := "vecLengths", inPlace := ["math.Float64bits", "math.Float64frombits", "math.sqrt"], unfollowed := true, recurses := true, apart := false, narrowed := true }
def VecLengthsUptoSaid : Prop := vecLengthsUptoRow.holds Try.pinned (OpenSpec.upto vecLengthsSpec)

end Rows
end Go.Proofs.Ytkgkckjgdajegaa
