/- tarnlaw25.SaveEncodes: at every input it returns true and leaves the arguments as they were; cube.frames and geom.frames read as the program's text lays them. -/
import Derived.Test.YtomopcclgokehaaGreatDoorTie
import Derived.Test.YtomopcclgokehaaGreatDoorCards
import Derived.Test.YtomopcclgokehaaGreatDoorPtF
set_option linter.unusedVariables false
set_option linter.unusedSimpArgs false
set_option linter.unusedSectionVars false
set_option linter.unusedVariables false
set_option linter.unusedSimpArgs false
namespace Go.Lift
def Fx_ref25_Encode := fun (ty25 ty5 : Nat) (n : Int) (s : List Nat × List Int × List Int × List Nat × Int × Int) (post : List Int × Int × Unit → Prop) => ∃ (h : WCheck n (s.fst,
  s.snd.fst, s.snd.snd.fst, s.snd.snd.snd.fst, s.snd.snd.snd.snd.fst, s.snd.snd.snd.snd.snd)), ∀ (a : Bool), a = ((checkR n (s.fst, s.snd.fst, s.snd.snd.fst, s.snd.snd.snd.fst,
  s.snd.snd.snd.snd.fst, s.snd.snd.snd.snd.snd)).snd.fst != (0 : Int)) → Br a (post ([], (checkR n (s.fst, s.snd.fst, s.snd.snd.fst, s.snd.snd.snd.fst, s.snd.snd.snd.snd.fst,
  s.snd.snd.snd.snd.snd)).snd.fst, ())) (∃ (h : (1 : Nat) ≤ (4 : Nat) ∧ (4 : Nat) = (4 : Nat)), ∃ (h : (0 : Nat) < (4 : Nat) ∧ (0 : Nat) < (1 : Nat) ∧ ((4 : Nat) + (1 : Nat)) * (1 :
  Nat) ≤ (140737488355328 : Nat)), ((0 : Nat) = (0 : Nat) ∧ (4 : Nat) + (1 : Nat) = ([(84 : Int), (65 : Int), (82 : Int), (78 : Int)] ++ [IntKind.u8.wrap n]).length) ∧ HIs [HObj.box
  Md.rw ty25 [SV.data (K.flt Go.FloatKind.f64).slice s.fst, SV.data (K.int IntKind.i64).slice s.snd.fst, SV.data (K.int IntKind.i64).slice s.snd.snd.fst, SV.data (K.flt
  Go.FloatKind.f64).slice s.snd.snd.snd.fst, SV.val (Go.Value.int IntKind.i64 s.snd.snd.snd.snd.fst), SV.val (Go.Value.int IntKind.i64 s.snd.snd.snd.snd.snd)], HObj.dead, HObj.row
  Md.rw ty5 (K.int IntKind.u8) [IntKind.u8.wrap n], HObj.dead] [HObj.box Md.rw ty25 [SV.data (K.flt Go.FloatKind.f64).slice s.fst, SV.data (K.int IntKind.i64).slice s.snd.fst,
  SV.data (K.int IntKind.i64).slice s.snd.snd.fst, SV.data (K.flt Go.FloatKind.f64).slice s.snd.snd.snd.fst, SV.val (Go.Value.int IntKind.i64 s.snd.snd.snd.snd.fst), SV.val
  (Go.Value.int IntKind.i64 s.snd.snd.snd.snd.snd)], HObj.dead, HObj.row Md.rw ty5 (K.int IntKind.u8) [IntKind.u8.wrap n], HObj.dead] ∧ ∃ (I : List Int × Int × Int × Unit → Unit →
  Prop), ∃ (μ : List Int × Int × Int × Unit → Unit → Nat), I ([(84 : Int), (65 : Int), (82 : Int), (78 : Int)] ++ [IntKind.u8.wrap n], IntKind.u64.wrap s.snd.snd.snd.snd.snd, (0 :
  Int), ()) () ∧ ∀ (x : List Int × Int × Int × Unit) (y : Unit), I x y → ∀ (a : Bool), a = decide (x.snd.snd.fst < (8 : Int)) → Br a (∃ (h : (256 : Int) ≠ (0 : Int)), ∃ (h :
  x.fst.length = x.fst.length ∧ (x.fst.length + (1 : Nat)) * (1 : Nat) ≤ (140737488355328 : Nat)), ∃ (h : (256 : Int) ≠ (0 : Int)), ((0 : Nat) = (0 : Nat) ∧ x.fst.length + (1 : Nat)
  = (x.fst ++ [IntKind.u8.wrap (x.snd.fst.tmod (256 : Int))]).length) ∧ HIs [HObj.box Md.rw ty25 [SV.data (K.flt Go.FloatKind.f64).slice s.fst, SV.data (K.int IntKind.i64).slice
  s.snd.fst, SV.data (K.int IntKind.i64).slice s.snd.snd.fst, SV.data (K.flt Go.FloatKind.f64).slice s.snd.snd.snd.fst, SV.val (Go.Value.int IntKind.i64 s.snd.snd.snd.snd.fst),
  SV.val (Go.Value.int IntKind.i64 s.snd.snd.snd.snd.snd)], HObj.dead, HObj.row Md.rw ty5 (K.int IntKind.u8) [IntKind.u8.wrap n], HObj.dead] [HObj.box Md.rw ty25 [SV.data (K.flt
  Go.FloatKind.f64).slice s.fst, SV.data (K.int IntKind.i64).slice s.snd.fst, SV.data (K.int IntKind.i64).slice s.snd.snd.fst, SV.data (K.flt Go.FloatKind.f64).slice
  s.snd.snd.snd.fst, SV.val (Go.Value.int IntKind.i64 s.snd.snd.snd.snd.fst), SV.val (Go.Value.int IntKind.i64 s.snd.snd.snd.snd.snd)], HObj.dead, HObj.row Md.rw ty5 (K.int
  IntKind.u8) [IntKind.u8.wrap n], HObj.dead] ∧ I (x.fst ++ [IntKind.u8.wrap (x.snd.fst.tmod (256 : Int))], IntKind.u64.wrap (x.snd.fst.tdiv (256 : Int)), IntKind.i64.wrap
  (x.snd.snd.fst + (1 : Int)), ()) () ∧ μ (x.fst ++ [IntKind.u8.wrap (x.snd.fst.tmod (256 : Int))], IntKind.u64.wrap (x.snd.fst.tdiv (256 : Int)), IntKind.i64.wrap (x.snd.snd.fst +
  (1 : Int)), ()) () < μ x y) (((0 : Nat) = (0 : Nat) ∧ x.fst.length = x.fst.length) ∧ HIs [HObj.box Md.rw ty25 [SV.data (K.flt Go.FloatKind.f64).slice s.fst, SV.data (K.int
  IntKind.i64).slice s.snd.fst, SV.data (K.int IntKind.i64).slice s.snd.snd.fst, SV.data (K.flt Go.FloatKind.f64).slice s.snd.snd.snd.fst, SV.val (Go.Value.int IntKind.i64
  s.snd.snd.snd.snd.fst), SV.val (Go.Value.int IntKind.i64 s.snd.snd.snd.snd.snd)], HObj.dead, HObj.row Md.rw ty5 (K.int IntKind.u8) [IntKind.u8.wrap n], HObj.dead, HObj.dead]
  [HObj.box Md.rw ty25 [SV.data (K.flt Go.FloatKind.f64).slice s.fst, SV.data (K.int IntKind.i64).slice s.snd.fst, SV.data (K.int IntKind.i64).slice s.snd.snd.fst, SV.data (K.flt
  Go.FloatKind.f64).slice s.snd.snd.snd.fst, SV.val (Go.Value.int IntKind.i64 s.snd.snd.snd.snd.fst), SV.val (Go.Value.int IntKind.i64 s.snd.snd.snd.snd.snd)], HObj.dead, HObj.row
  Md.rw ty5 (K.int IntKind.u8) [IntKind.u8.wrap n], HObj.dead, HObj.dead] ∧ ∃ (I : List Int × Int × Int × Unit → Unit → Prop), ∃ (μ : List Int × Int × Int × Unit → Unit → Nat), I
  (x.fst, IntKind.u64.wrap s.snd.snd.snd.snd.fst, (0 : Int), ()) () ∧ ∀ (x : List Int × Int × Int × Unit) (y : Unit), I x y → ∀ (a : Bool), a = decide (x.snd.snd.fst < (8 : Int)) →
  Br a (∃ (h : (256 : Int) ≠ (0 : Int)), ∃ (h : x.fst.length = x.fst.length ∧ (x.fst.length + (1 : Nat)) * (1 : Nat) ≤ (140737488355328 : Nat)), ∃ (h : (256 : Int) ≠ (0 : Int)), ((0
  : Nat) = (0 : Nat) ∧ x.fst.length + (1 : Nat) = (x.fst ++ [IntKind.u8.wrap (x.snd.fst.tmod (256 : Int))]).length) ∧ HIs [HObj.box Md.rw ty25 [SV.data (K.flt
  Go.FloatKind.f64).slice s.fst, SV.data (K.int IntKind.i64).slice s.snd.fst, SV.data (K.int IntKind.i64).slice s.snd.snd.fst, SV.data (K.flt Go.FloatKind.f64).slice
  s.snd.snd.snd.fst, SV.val (Go.Value.int IntKind.i64 s.snd.snd.snd.snd.fst), SV.val (Go.Value.int IntKind.i64 s.snd.snd.snd.snd.snd)], HObj.dead, HObj.row Md.rw ty5 (K.int
  IntKind.u8) [IntKind.u8.wrap n], HObj.dead, HObj.dead] [HObj.box Md.rw ty25 [SV.data (K.flt Go.FloatKind.f64).slice s.fst, SV.data (K.int IntKind.i64).slice s.snd.fst, SV.data
  (K.int IntKind.i64).slice s.snd.snd.fst, SV.data (K.flt Go.FloatKind.f64).slice s.snd.snd.snd.fst, SV.val (Go.Value.int IntKind.i64 s.snd.snd.snd.snd.fst), SV.val (Go.Value.int
  IntKind.i64 s.snd.snd.snd.snd.snd)], HObj.dead, HObj.row Md.rw ty5 (K.int IntKind.u8) [IntKind.u8.wrap n], HObj.dead, HObj.dead] ∧ I (x.fst ++ [IntKind.u8.wrap (x.snd.fst.tmod
  (256 : Int))], IntKind.u64.wrap (x.snd.fst.tdiv (256 : Int)), IntKind.i64.wrap (x.snd.snd.fst + (1 : Int)), ()) () ∧ μ (x.fst ++ [IntKind.u8.wrap (x.snd.fst.tmod (256 : Int))],
  IntKind.u64.wrap (x.snd.fst.tdiv (256 : Int)), IntKind.i64.wrap (x.snd.snd.fst + (1 : Int)), ()) () < μ x y) (((0 : Nat) = (0 : Nat) ∧ x.fst.length = x.fst.length) ∧ HIs [HObj.box
  Md.rw ty25 [SV.data (K.flt Go.FloatKind.f64).slice s.fst, SV.data (K.int IntKind.i64).slice s.snd.fst, SV.data (K.int IntKind.i64).slice s.snd.snd.fst, SV.data (K.flt
  Go.FloatKind.f64).slice s.snd.snd.snd.fst, SV.val (Go.Value.int IntKind.i64 s.snd.snd.snd.snd.fst), SV.val (Go.Value.int IntKind.i64 s.snd.snd.snd.snd.snd)], HObj.dead, HObj.row
  Md.rw ty5 (K.int IntKind.u8) [IntKind.u8.wrap n], HObj.dead, HObj.dead, HObj.dead] [HObj.box Md.rw ty25 [SV.data (K.flt Go.FloatKind.f64).slice s.fst, SV.data (K.int
  IntKind.i64).slice s.snd.fst, SV.data (K.int IntKind.i64).slice s.snd.snd.fst, SV.data (K.flt Go.FloatKind.f64).slice s.snd.snd.snd.fst, SV.val (Go.Value.int IntKind.i64
  s.snd.snd.snd.snd.fst), SV.val (Go.Value.int IntKind.i64 s.snd.snd.snd.snd.snd)], HObj.dead, HObj.row Md.rw ty5 (K.int IntKind.u8) [IntKind.u8.wrap n], HObj.dead, HObj.dead,
  HObj.dead] ∧ ∃ (I : List Int × Int × Unit → Unit → Prop), ∃ (μ : List Int × Int × Unit → Unit → Nat), I (x.fst, (0 : Int), ()) () ∧ ∀ (x : List Int × Int × Unit) (y : Unit), I x y
  → ∀ (a : Bool), a = decide (x.snd.fst < (↑s.fst.length : Int)) → Br a (∃ (h : (0 : Int) ≤ x.snd.fst ∧ x.snd.fst < (↑s.fst.length : Int)), ∃ (h : True), ((0 : Nat) = (0 : Nat) ∧
  x.fst.length = x.fst.length) ∧ HIs [HObj.box Md.rw ty25 [SV.data (K.flt Go.FloatKind.f64).slice s.fst, SV.data (K.int IntKind.i64).slice s.snd.fst, SV.data (K.int
  IntKind.i64).slice s.snd.snd.fst, SV.data (K.flt Go.FloatKind.f64).slice s.snd.snd.snd.fst, SV.val (Go.Value.int IntKind.i64 s.snd.snd.snd.snd.fst), SV.val (Go.Value.int
  IntKind.i64 s.snd.snd.snd.snd.snd)], HObj.dead, HObj.row Md.rw ty5 (K.int IntKind.u8) [IntKind.u8.wrap n], HObj.dead, HObj.dead, HObj.dead, HObj.dead] [HObj.box Md.rw ty25
  [SV.data (K.flt Go.FloatKind.f64).slice s.fst, SV.data (K.int IntKind.i64).slice s.snd.fst, SV.data (K.int IntKind.i64).slice s.snd.snd.fst, SV.data (K.flt Go.FloatKind.f64).slice
  s.snd.snd.snd.fst, SV.val (Go.Value.int IntKind.i64 s.snd.snd.snd.snd.fst), SV.val (Go.Value.int IntKind.i64 s.snd.snd.snd.snd.snd)], HObj.dead, HObj.row Md.rw ty5 (K.int
  IntKind.u8) [IntKind.u8.wrap n], HObj.dead, HObj.dead, HObj.dead, HObj.dead] ∧ ∃ (I_1 : List Int × Int × Int × Unit → Unit → Prop), ∃ (μ_1 : List Int × Int × Int × Unit → Unit →
  Nat), I_1 (x.fst, (bitsR (s.fst.getD x.snd.fst.toNat (0 : Nat))).fst, (0 : Int), ()) () ∧ ∀ (x_7 : List Int × Int × Int × Unit) (y_1 : Unit), I_1 x_7 y_1 → ∀ (a : Bool), a =
  decide (x_7.snd.snd.fst < (8 : Int)) → Br a (∃ (h : (256 : Int) ≠ (0 : Int)), ∃ (h : x_7.fst.length = x_7.fst.length ∧ (x_7.fst.length + (1 : Nat)) * (1 : Nat) ≤ (140737488355328
  : Nat)), ∃ (h : (256 : Int) ≠ (0 : Int)), ((0 : Nat) = (0 : Nat) ∧ x_7.fst.length + (1 : Nat) = (x_7.fst ++ [IntKind.u8.wrap (x_7.snd.fst.tmod (256 : Int))]).length) ∧ HIs
  [HObj.box Md.rw ty25 [SV.data (K.flt Go.FloatKind.f64).slice s.fst, SV.data (K.int IntKind.i64).slice s.snd.fst, SV.data (K.int IntKind.i64).slice s.snd.snd.fst, SV.data (K.flt
  Go.FloatKind.f64).slice s.snd.snd.snd.fst, SV.val (Go.Value.int IntKind.i64 s.snd.snd.snd.snd.fst), SV.val (Go.Value.int IntKind.i64 s.snd.snd.snd.snd.snd)], HObj.dead, HObj.row
  Md.rw ty5 (K.int IntKind.u8) [IntKind.u8.wrap n], HObj.dead, HObj.dead, HObj.dead, HObj.dead] [HObj.box Md.rw ty25 [SV.data (K.flt Go.FloatKind.f64).slice s.fst, SV.data (K.int
  IntKind.i64).slice s.snd.fst, SV.data (K.int IntKind.i64).slice s.snd.snd.fst, SV.data (K.flt Go.FloatKind.f64).slice s.snd.snd.snd.fst, SV.val (Go.Value.int IntKind.i64
  s.snd.snd.snd.snd.fst), SV.val (Go.Value.int IntKind.i64 s.snd.snd.snd.snd.snd)], HObj.dead, HObj.row Md.rw ty5 (K.int IntKind.u8) [IntKind.u8.wrap n], HObj.dead, HObj.dead,
  HObj.dead, HObj.dead] ∧ I_1 (x_7.fst ++ [IntKind.u8.wrap (x_7.snd.fst.tmod (256 : Int))], IntKind.u64.wrap (x_7.snd.fst.tdiv (256 : Int)), IntKind.i64.wrap (x_7.snd.snd.fst + (1 :
  Int)), ()) () ∧ μ_1 (x_7.fst ++ [IntKind.u8.wrap (x_7.snd.fst.tmod (256 : Int))], IntKind.u64.wrap (x_7.snd.fst.tdiv (256 : Int)), IntKind.i64.wrap (x_7.snd.snd.fst + (1 : Int)),
  ()) () < μ_1 x_7 y_1) (((0 : Nat) = (0 : Nat) ∧ x_7.fst.length = x_7.fst.length) ∧ HIs [HObj.box Md.rw ty25 [SV.data (K.flt Go.FloatKind.f64).slice s.fst, SV.data (K.int
  IntKind.i64).slice s.snd.fst, SV.data (K.int IntKind.i64).slice s.snd.snd.fst, SV.data (K.flt Go.FloatKind.f64).slice s.snd.snd.snd.fst, SV.val (Go.Value.int IntKind.i64
  s.snd.snd.snd.snd.fst), SV.val (Go.Value.int IntKind.i64 s.snd.snd.snd.snd.snd)], HObj.dead, HObj.row Md.rw ty5 (K.int IntKind.u8) [IntKind.u8.wrap n], HObj.dead, HObj.dead,
  HObj.dead] [HObj.box Md.rw ty25 [SV.data (K.flt Go.FloatKind.f64).slice s.fst, SV.data (K.int IntKind.i64).slice s.snd.fst, SV.data (K.int IntKind.i64).slice s.snd.snd.fst,
  SV.data (K.flt Go.FloatKind.f64).slice s.snd.snd.snd.fst, SV.val (Go.Value.int IntKind.i64 s.snd.snd.snd.snd.fst), SV.val (Go.Value.int IntKind.i64 s.snd.snd.snd.snd.snd)],
  HObj.dead, HObj.row Md.rw ty5 (K.int IntKind.u8) [IntKind.u8.wrap n], HObj.dead, HObj.dead, HObj.dead] ∧ I (x_7.fst, IntKind.i64.wrap (x.snd.fst + (1 : Int)), ()) () ∧ μ (x_7.fst,
  IntKind.i64.wrap (x.snd.fst + (1 : Int)), ()) () < μ x y)) (((0 : Nat) = (0 : Nat) ∧ x.fst.length = x.fst.length) ∧ HIs [HObj.box Md.rw ty25 [SV.data (K.flt
  Go.FloatKind.f64).slice s.fst, SV.data (K.int IntKind.i64).slice s.snd.fst, SV.data (K.int IntKind.i64).slice s.snd.snd.fst, SV.data (K.flt Go.FloatKind.f64).slice
  s.snd.snd.snd.fst, SV.val (Go.Value.int IntKind.i64 s.snd.snd.snd.snd.fst), SV.val (Go.Value.int IntKind.i64 s.snd.snd.snd.snd.snd)], HObj.dead, HObj.row Md.rw ty5 (K.int
  IntKind.u8) [IntKind.u8.wrap n], HObj.dead, HObj.dead, HObj.dead, HObj.dead] [HObj.box Md.rw ty25 [SV.data (K.flt Go.FloatKind.f64).slice s.fst, SV.data (K.int IntKind.i64).slice
  s.snd.fst, SV.data (K.int IntKind.i64).slice s.snd.snd.fst, SV.data (K.flt Go.FloatKind.f64).slice s.snd.snd.snd.fst, SV.val (Go.Value.int IntKind.i64 s.snd.snd.snd.snd.fst),
  SV.val (Go.Value.int IntKind.i64 s.snd.snd.snd.snd.snd)], HObj.dead, HObj.row Md.rw ty5 (K.int IntKind.u8) [IntKind.u8.wrap n], HObj.dead, HObj.dead, HObj.dead, HObj.dead] ∧ ∃ (I
  : List Int × Int × Unit → Unit → Prop), ∃ (μ : List Int × Int × Unit → Unit → Nat), I (x.fst, (0 : Int), ()) () ∧ ∀ (x : List Int × Int × Unit) (y : Unit), I x y → ∀ (a : Bool), a
  = decide (x.snd.fst < (↑s.snd.fst.length : Int)) → Br a (∃ (h : (0 : Int) ≤ x.snd.fst ∧ x.snd.fst < (↑s.snd.fst.length : Int)), ((0 : Nat) = (0 : Nat) ∧ x.fst.length =
  x.fst.length) ∧ HIs [HObj.box Md.rw ty25 [SV.data (K.flt Go.FloatKind.f64).slice s.fst, SV.data (K.int IntKind.i64).slice s.snd.fst, SV.data (K.int IntKind.i64).slice
  s.snd.snd.fst, SV.data (K.flt Go.FloatKind.f64).slice s.snd.snd.snd.fst, SV.val (Go.Value.int IntKind.i64 s.snd.snd.snd.snd.fst), SV.val (Go.Value.int IntKind.i64
  s.snd.snd.snd.snd.snd)], HObj.dead, HObj.row Md.rw ty5 (K.int IntKind.u8) [IntKind.u8.wrap n], HObj.dead, HObj.dead, HObj.dead, HObj.dead, HObj.dead] [HObj.box Md.rw ty25 [SV.data
  (K.flt Go.FloatKind.f64).slice s.fst, SV.data (K.int IntKind.i64).slice s.snd.fst, SV.data (K.int IntKind.i64).slice s.snd.snd.fst, SV.data (K.flt Go.FloatKind.f64).slice
  s.snd.snd.snd.fst, SV.val (Go.Value.int IntKind.i64 s.snd.snd.snd.snd.fst), SV.val (Go.Value.int IntKind.i64 s.snd.snd.snd.snd.snd)], HObj.dead, HObj.row Md.rw ty5 (K.int
  IntKind.u8) [IntKind.u8.wrap n], HObj.dead, HObj.dead, HObj.dead, HObj.dead, HObj.dead] ∧ ∃ (I_1 : List Int × Int × Int × Unit → Unit → Prop), ∃ (μ_1 : List Int × Int × Int × Unit
  → Unit → Nat), I_1 (x.fst, IntKind.u64.wrap (s.snd.fst.getD x.snd.fst.toNat (0 : Int)), (0 : Int), ()) () ∧ ∀ (x_9 : List Int × Int × Int × Unit) (y_1 : Unit), I_1 x_9 y_1 → ∀ (a
  : Bool), a = decide (x_9.snd.snd.fst < (8 : Int)) → Br a (∃ (h : (256 : Int) ≠ (0 : Int)), ∃ (h : x_9.fst.length = x_9.fst.length ∧ (x_9.fst.length + (1 : Nat)) * (1 : Nat) ≤
  (140737488355328 : Nat)), ∃ (h : (256 : Int) ≠ (0 : Int)), ((0 : Nat) = (0 : Nat) ∧ x_9.fst.length + (1 : Nat) = (x_9.fst ++ [IntKind.u8.wrap (x_9.snd.fst.tmod (256 :
  Int))]).length) ∧ HIs [HObj.box Md.rw ty25 [SV.data (K.flt Go.FloatKind.f64).slice s.fst, SV.data (K.int IntKind.i64).slice s.snd.fst, SV.data (K.int IntKind.i64).slice
  s.snd.snd.fst, SV.data (K.flt Go.FloatKind.f64).slice s.snd.snd.snd.fst, SV.val (Go.Value.int IntKind.i64 s.snd.snd.snd.snd.fst), SV.val (Go.Value.int IntKind.i64
  s.snd.snd.snd.snd.snd)], HObj.dead, HObj.row Md.rw ty5 (K.int IntKind.u8) [IntKind.u8.wrap n], HObj.dead, HObj.dead, HObj.dead, HObj.dead, HObj.dead] [HObj.box Md.rw ty25 [SV.data
  (K.flt Go.FloatKind.f64).slice s.fst, SV.data (K.int IntKind.i64).slice s.snd.fst, SV.data (K.int IntKind.i64).slice s.snd.snd.fst, SV.data (K.flt Go.FloatKind.f64).slice
  s.snd.snd.snd.fst, SV.val (Go.Value.int IntKind.i64 s.snd.snd.snd.snd.fst), SV.val (Go.Value.int IntKind.i64 s.snd.snd.snd.snd.snd)], HObj.dead, HObj.row Md.rw ty5 (K.int
  IntKind.u8) [IntKind.u8.wrap n], HObj.dead, HObj.dead, HObj.dead, HObj.dead, HObj.dead] ∧ I_1 (x_9.fst ++ [IntKind.u8.wrap (x_9.snd.fst.tmod (256 : Int))], IntKind.u64.wrap
  (x_9.snd.fst.tdiv (256 : Int)), IntKind.i64.wrap (x_9.snd.snd.fst + (1 : Int)), ()) () ∧ μ_1 (x_9.fst ++ [IntKind.u8.wrap (x_9.snd.fst.tmod (256 : Int))], IntKind.u64.wrap
  (x_9.snd.fst.tdiv (256 : Int)), IntKind.i64.wrap (x_9.snd.snd.fst + (1 : Int)), ()) () < μ_1 x_9 y_1) (((0 : Nat) = (0 : Nat) ∧ x_9.fst.length = x_9.fst.length) ∧ HIs [HObj.box
  Md.rw ty25 [SV.data (K.flt Go.FloatKind.f64).slice s.fst, SV.data (K.int IntKind.i64).slice s.snd.fst, SV.data (K.int IntKind.i64).slice s.snd.snd.fst, SV.data (K.flt
  Go.FloatKind.f64).slice s.snd.snd.snd.fst, SV.val (Go.Value.int IntKind.i64 s.snd.snd.snd.snd.fst), SV.val (Go.Value.int IntKind.i64 s.snd.snd.snd.snd.snd)], HObj.dead, HObj.row
  Md.rw ty5 (K.int IntKind.u8) [IntKind.u8.wrap n], HObj.dead, HObj.dead, HObj.dead, HObj.dead] [HObj.box Md.rw ty25 [SV.data (K.flt Go.FloatKind.f64).slice s.fst, SV.data (K.int
  IntKind.i64).slice s.snd.fst, SV.data (K.int IntKind.i64).slice s.snd.snd.fst, SV.data (K.flt Go.FloatKind.f64).slice s.snd.snd.snd.fst, SV.val (Go.Value.int IntKind.i64
  s.snd.snd.snd.snd.fst), SV.val (Go.Value.int IntKind.i64 s.snd.snd.snd.snd.snd)], HObj.dead, HObj.row Md.rw ty5 (K.int IntKind.u8) [IntKind.u8.wrap n], HObj.dead, HObj.dead,
  HObj.dead, HObj.dead] ∧ I (x_9.fst, IntKind.i64.wrap (x.snd.fst + (1 : Int)), ()) () ∧ μ (x_9.fst, IntKind.i64.wrap (x.snd.fst + (1 : Int)), ()) () < μ x y)) (((0 : Nat) = (0 :
  Nat) ∧ x.fst.length = x.fst.length) ∧ HIs [HObj.box Md.rw ty25 [SV.data (K.flt Go.FloatKind.f64).slice s.fst, SV.data (K.int IntKind.i64).slice s.snd.fst, SV.data (K.int
  IntKind.i64).slice s.snd.snd.fst, SV.data (K.flt Go.FloatKind.f64).slice s.snd.snd.snd.fst, SV.val (Go.Value.int IntKind.i64 s.snd.snd.snd.snd.fst), SV.val (Go.Value.int
  IntKind.i64 s.snd.snd.snd.snd.snd)], HObj.dead, HObj.row Md.rw ty5 (K.int IntKind.u8) [IntKind.u8.wrap n], HObj.dead, HObj.dead, HObj.dead, HObj.dead, HObj.dead] [HObj.box Md.rw
  ty25 [SV.data (K.flt Go.FloatKind.f64).slice s.fst, SV.data (K.int IntKind.i64).slice s.snd.fst, SV.data (K.int IntKind.i64).slice s.snd.snd.fst, SV.data (K.flt
  Go.FloatKind.f64).slice s.snd.snd.snd.fst, SV.val (Go.Value.int IntKind.i64 s.snd.snd.snd.snd.fst), SV.val (Go.Value.int IntKind.i64 s.snd.snd.snd.snd.snd)], HObj.dead, HObj.row
  Md.rw ty5 (K.int IntKind.u8) [IntKind.u8.wrap n], HObj.dead, HObj.dead, HObj.dead, HObj.dead, HObj.dead] ∧ ∃ (I : List Int × Int × Unit → Unit → Prop), ∃ (μ : List Int × Int ×
  Unit → Unit → Nat), I (x.fst, (0 : Int), ()) () ∧ ∀ (x : List Int × Int × Unit) (y : Unit), I x y → ∀ (a : Bool), a = decide (x.snd.fst < (↑s.snd.snd.fst.length : Int)) → Br a (∃
  (h : (0 : Int) ≤ x.snd.fst ∧ x.snd.fst < (↑s.snd.snd.fst.length : Int)), ((0 : Nat) = (0 : Nat) ∧ x.fst.length = x.fst.length) ∧ HIs [HObj.box Md.rw ty25 [SV.data (K.flt
  Go.FloatKind.f64).slice s.fst, SV.data (K.int IntKind.i64).slice s.snd.fst, SV.data (K.int IntKind.i64).slice s.snd.snd.fst, SV.data (K.flt Go.FloatKind.f64).slice
  s.snd.snd.snd.fst, SV.val (Go.Value.int IntKind.i64 s.snd.snd.snd.snd.fst), SV.val (Go.Value.int IntKind.i64 s.snd.snd.snd.snd.snd)], HObj.dead, HObj.row Md.rw ty5 (K.int
  IntKind.u8) [IntKind.u8.wrap n], HObj.dead, HObj.dead, HObj.dead, HObj.dead, HObj.dead, HObj.dead] [HObj.box Md.rw ty25 [SV.data (K.flt Go.FloatKind.f64).slice s.fst, SV.data
  (K.int IntKind.i64).slice s.snd.fst, SV.data (K.int IntKind.i64).slice s.snd.snd.fst, SV.data (K.flt Go.FloatKind.f64).slice s.snd.snd.snd.fst, SV.val (Go.Value.int IntKind.i64
  s.snd.snd.snd.snd.fst), SV.val (Go.Value.int IntKind.i64 s.snd.snd.snd.snd.snd)], HObj.dead, HObj.row Md.rw ty5 (K.int IntKind.u8) [IntKind.u8.wrap n], HObj.dead, HObj.dead,
  HObj.dead, HObj.dead, HObj.dead, HObj.dead] ∧ ∃ (I_1 : List Int × Int × Int × Unit → Unit → Prop), ∃ (μ_1 : List Int × Int × Int × Unit → Unit → Nat), I_1 (x.fst, IntKind.u64.wrap
  (s.snd.snd.fst.getD x.snd.fst.toNat (0 : Int)), (0 : Int), ()) () ∧ ∀ (x_11 : List Int × Int × Int × Unit) (y_1 : Unit), I_1 x_11 y_1 → ∀ (a : Bool), a = decide (x_11.snd.snd.fst
  < (8 : Int)) → Br a (∃ (h : (256 : Int) ≠ (0 : Int)), ∃ (h : x_11.fst.length = x_11.fst.length ∧ (x_11.fst.length + (1 : Nat)) * (1 : Nat) ≤ (140737488355328 : Nat)), ∃ (h : (256
  : Int) ≠ (0 : Int)), ((0 : Nat) = (0 : Nat) ∧ x_11.fst.length + (1 : Nat) = (x_11.fst ++ [IntKind.u8.wrap (x_11.snd.fst.tmod (256 : Int))]).length) ∧ HIs [HObj.box Md.rw (25 :
  Nat) [SV.data (K.flt Go.FloatKind.f64).slice s.fst, SV.data (K.int IntKind.i64).slice s.snd.fst, SV.data (K.int IntKind.i64).slice s.snd.snd.fst, SV.data (K.flt
  Go.FloatKind.f64).slice s.snd.snd.snd.fst, SV.val (Go.Value.int IntKind.i64 s.snd.snd.snd.snd.fst), SV.val (Go.Value.int IntKind.i64 s.snd.snd.snd.snd.snd)], HObj.dead, HObj.row
  Md.rw (5 : Nat) (K.int IntKind.u8) [IntKind.u8.wrap n], HObj.dead, HObj.dead, HObj.dead, HObj.dead, HObj.dead, HObj.dead] [HObj.box Md.rw (25 : Nat) [SV.data (K.flt
  Go.FloatKind.f64).slice s.fst, SV.data (K.int IntKind.i64).slice s.snd.fst, SV.data (K.int IntKind.i64).slice s.snd.snd.fst, SV.data (K.flt Go.FloatKind.f64).slice
  s.snd.snd.snd.fst, SV.val (Go.Value.int IntKind.i64 s.snd.snd.snd.snd.fst), SV.val (Go.Value.int IntKind.i64 s.snd.snd.snd.snd.snd)], HObj.dead, HObj.row Md.rw (5 : Nat) (K.int
  IntKind.u8) [IntKind.u8.wrap n], HObj.dead, HObj.dead, HObj.dead, HObj.dead, HObj.dead, HObj.dead] ∧ I_1 (x_11.fst ++ [IntKind.u8.wrap (x_11.snd.fst.tmod (256 : Int))],
  IntKind.u64.wrap (x_11.snd.fst.tdiv (256 : Int)), IntKind.i64.wrap (x_11.snd.snd.fst + (1 : Int)), ()) () ∧ μ_1 (x_11.fst ++ [IntKind.u8.wrap (x_11.snd.fst.tmod (256 : Int))],
  IntKind.u64.wrap (x_11.snd.fst.tdiv (256 : Int)), IntKind.i64.wrap (x_11.snd.snd.fst + (1 : Int)), ()) () < μ_1 x_11 y_1) (((0 : Nat) = (0 : Nat) ∧ x_11.fst.length =
  x_11.fst.length) ∧ HIs [HObj.box Md.rw (25 : Nat) [SV.data (K.flt Go.FloatKind.f64).slice s.fst, SV.data (K.int IntKind.i64).slice s.snd.fst, SV.data (K.int IntKind.i64).slice
  s.snd.snd.fst, SV.data (K.flt Go.FloatKind.f64).slice s.snd.snd.snd.fst, SV.val (Go.Value.int IntKind.i64 s.snd.snd.snd.snd.fst), SV.val (Go.Value.int IntKind.i64
  s.snd.snd.snd.snd.snd)], HObj.dead, HObj.row Md.rw (5 : Nat) (K.int IntKind.u8) [IntKind.u8.wrap n], HObj.dead, HObj.dead, HObj.dead, HObj.dead, HObj.dead] [HObj.box Md.rw (25 :
  Nat) [SV.data (K.flt Go.FloatKind.f64).slice s.fst, SV.data (K.int IntKind.i64).slice s.snd.fst, SV.data (K.int IntKind.i64).slice s.snd.snd.fst, SV.data (K.flt
  Go.FloatKind.f64).slice s.snd.snd.snd.fst, SV.val (Go.Value.int IntKind.i64 s.snd.snd.snd.snd.fst), SV.val (Go.Value.int IntKind.i64 s.snd.snd.snd.snd.snd)], HObj.dead, HObj.row
  Md.rw (5 : Nat) (K.int IntKind.u8) [IntKind.u8.wrap n], HObj.dead, HObj.dead, HObj.dead, HObj.dead, HObj.dead] ∧ I (x_11.fst, IntKind.i64.wrap (x.snd.fst + (1 : Int)), ()) () ∧ μ
  (x_11.fst, IntKind.i64.wrap (x.snd.fst + (1 : Int)), ()) () < μ x y)) (((0 : Nat) = (0 : Nat) ∧ x.fst.length = x.fst.length) ∧ HIs [HObj.box Md.rw ty25 [SV.data (K.flt
  Go.FloatKind.f64).slice s.fst, SV.data (K.int IntKind.i64).slice s.snd.fst, SV.data (K.int IntKind.i64).slice s.snd.snd.fst, SV.data (K.flt Go.FloatKind.f64).slice
  s.snd.snd.snd.fst, SV.val (Go.Value.int IntKind.i64 s.snd.snd.snd.snd.fst), SV.val (Go.Value.int IntKind.i64 s.snd.snd.snd.snd.snd)], HObj.dead, HObj.row Md.rw ty5 (K.int
  IntKind.u8) [IntKind.u8.wrap n], HObj.dead, HObj.dead, HObj.dead, HObj.dead, HObj.dead, HObj.dead] [HObj.box Md.rw ty25 [SV.data (K.flt Go.FloatKind.f64).slice s.fst, SV.data
  (K.int IntKind.i64).slice s.snd.fst, SV.data (K.int IntKind.i64).slice s.snd.snd.fst, SV.data (K.flt Go.FloatKind.f64).slice s.snd.snd.snd.fst, SV.val (Go.Value.int IntKind.i64
  s.snd.snd.snd.snd.fst), SV.val (Go.Value.int IntKind.i64 s.snd.snd.snd.snd.snd)], HObj.dead, HObj.row Md.rw ty5 (K.int IntKind.u8) [IntKind.u8.wrap n], HObj.dead, HObj.dead,
  HObj.dead, HObj.dead, HObj.dead, HObj.dead] ∧ ∃ (I : List Int × Int × Unit → Unit → Prop), ∃ (μ : List Int × Int × Unit → Unit → Nat), I (x.fst, (0 : Int), ()) () ∧ ∀ (x : List
  Int × Int × Unit) (y : Unit), I x y → ∀ (a : Bool), a = decide (x.snd.fst < (↑s.snd.snd.snd.fst.length : Int)) → Br a (∃ (h : (0 : Int) ≤ x.snd.fst ∧ x.snd.fst <
  (↑s.snd.snd.snd.fst.length : Int)), ∃ (h : True), ((0 : Nat) = (0 : Nat) ∧ x.fst.length = x.fst.length) ∧ HIs [HObj.box Md.rw (25 : Nat) [SV.data (K.flt Go.FloatKind.f64).slice
  s.fst, SV.data (K.int IntKind.i64).slice s.snd.fst, SV.data (K.int IntKind.i64).slice s.snd.snd.fst, SV.data (K.flt Go.FloatKind.f64).slice s.snd.snd.snd.fst, SV.val (Go.Value.int
  IntKind.i64 s.snd.snd.snd.snd.fst), SV.val (Go.Value.int IntKind.i64 s.snd.snd.snd.snd.snd)], HObj.dead, HObj.row Md.rw (5 : Nat) (K.int IntKind.u8) [IntKind.u8.wrap n],
  HObj.dead, HObj.dead, HObj.dead, HObj.dead, HObj.dead, HObj.dead, HObj.dead] [HObj.box Md.rw (25 : Nat) [SV.data (K.flt Go.FloatKind.f64).slice s.fst, SV.data (K.int
  IntKind.i64).slice s.snd.fst, SV.data (K.int IntKind.i64).slice s.snd.snd.fst, SV.data (K.flt Go.FloatKind.f64).slice s.snd.snd.snd.fst, SV.val (Go.Value.int IntKind.i64
  s.snd.snd.snd.snd.fst), SV.val (Go.Value.int IntKind.i64 s.snd.snd.snd.snd.snd)], HObj.dead, HObj.row Md.rw (5 : Nat) (K.int IntKind.u8) [IntKind.u8.wrap n], HObj.dead, HObj.dead,
  HObj.dead, HObj.dead, HObj.dead, HObj.dead, HObj.dead] ∧ ∃ (I_1 : List Int × Int × Int × Unit → Unit → Prop), ∃ (μ_1 : List Int × Int × Int × Unit → Unit → Nat), I_1 (x.fst,
  (bitsR (s.snd.snd.snd.fst.getD x.snd.fst.toNat (0 : Nat))).fst, (0 : Int), ()) () ∧ ∀ (x_13 : List Int × Int × Int × Unit) (y_1 : Unit), I_1 x_13 y_1 → ∀ (a : Bool), a = decide
  (x_13.snd.snd.fst < (8 : Int)) → Br a (∃ (h : (256 : Int) ≠ (0 : Int)), ∃ (h : x_13.fst.length = x_13.fst.length ∧ (x_13.fst.length + (1 : Nat)) * (1 : Nat) ≤ (140737488355328 :
  Nat)), ∃ (h : (256 : Int) ≠ (0 : Int)), ((0 : Nat) = (0 : Nat) ∧ x_13.fst.length + (1 : Nat) = (x_13.fst ++ [IntKind.u8.wrap (x_13.snd.fst.tmod (256 : Int))]).length) ∧ HIs
  [HObj.box Md.rw (25 : Nat) [SV.data (K.flt Go.FloatKind.f64).slice s.fst, SV.data (K.int IntKind.i64).slice s.snd.fst, SV.data (K.int IntKind.i64).slice s.snd.snd.fst, SV.data
  (K.flt Go.FloatKind.f64).slice s.snd.snd.snd.fst, SV.val (Go.Value.int IntKind.i64 s.snd.snd.snd.snd.fst), SV.val (Go.Value.int IntKind.i64 s.snd.snd.snd.snd.snd)], HObj.dead,
  HObj.row Md.rw (5 : Nat) (K.int IntKind.u8) [IntKind.u8.wrap n], HObj.dead, HObj.dead, HObj.dead, HObj.dead, HObj.dead, HObj.dead, HObj.dead] [HObj.box Md.rw (25 : Nat) [SV.data
  (K.flt Go.FloatKind.f64).slice s.fst, SV.data (K.int IntKind.i64).slice s.snd.fst, SV.data (K.int IntKind.i64).slice s.snd.snd.fst, SV.data (K.flt Go.FloatKind.f64).slice
  s.snd.snd.snd.fst, SV.val (Go.Value.int IntKind.i64 s.snd.snd.snd.snd.fst), SV.val (Go.Value.int IntKind.i64 s.snd.snd.snd.snd.snd)], HObj.dead, HObj.row Md.rw (5 : Nat) (K.int
  IntKind.u8) [IntKind.u8.wrap n], HObj.dead, HObj.dead, HObj.dead, HObj.dead, HObj.dead, HObj.dead, HObj.dead] ∧ I_1 (x_13.fst ++ [IntKind.u8.wrap (x_13.snd.fst.tmod (256 : Int))],
  IntKind.u64.wrap (x_13.snd.fst.tdiv (256 : Int)), IntKind.i64.wrap (x_13.snd.snd.fst + (1 : Int)), ()) () ∧ μ_1 (x_13.fst ++ [IntKind.u8.wrap (x_13.snd.fst.tmod (256 : Int))],
  IntKind.u64.wrap (x_13.snd.fst.tdiv (256 : Int)), IntKind.i64.wrap (x_13.snd.snd.fst + (1 : Int)), ()) () < μ_1 x_13 y_1) (((0 : Nat) = (0 : Nat) ∧ x_13.fst.length =
  x_13.fst.length) ∧ HIs [HObj.box Md.rw (25 : Nat) [SV.data (K.flt Go.FloatKind.f64).slice s.fst, SV.data (K.int IntKind.i64).slice s.snd.fst, SV.data (K.int IntKind.i64).slice
  s.snd.snd.fst, SV.data (K.flt Go.FloatKind.f64).slice s.snd.snd.snd.fst, SV.val (Go.Value.int IntKind.i64 s.snd.snd.snd.snd.fst), SV.val (Go.Value.int IntKind.i64
  s.snd.snd.snd.snd.snd)], HObj.dead, HObj.row Md.rw (5 : Nat) (K.int IntKind.u8) [IntKind.u8.wrap n], HObj.dead, HObj.dead, HObj.dead, HObj.dead, HObj.dead, HObj.dead] [HObj.box
  Md.rw (25 : Nat) [SV.data (K.flt Go.FloatKind.f64).slice s.fst, SV.data (K.int IntKind.i64).slice s.snd.fst, SV.data (K.int IntKind.i64).slice s.snd.snd.fst, SV.data (K.flt
  Go.FloatKind.f64).slice s.snd.snd.snd.fst, SV.val (Go.Value.int IntKind.i64 s.snd.snd.snd.snd.fst), SV.val (Go.Value.int IntKind.i64 s.snd.snd.snd.snd.snd)], HObj.dead, HObj.row
  Md.rw (5 : Nat) (K.int IntKind.u8) [IntKind.u8.wrap n], HObj.dead, HObj.dead, HObj.dead, HObj.dead, HObj.dead, HObj.dead] ∧ I (x_13.fst, IntKind.i64.wrap (x.snd.fst + (1 : Int)),
  ()) () ∧ μ (x_13.fst, IntKind.i64.wrap (x.snd.fst + (1 : Int)), ()) () < μ x y)) (∃ (h : BLs (List.take x.fst.length (List.drop (0 : Nat) x.fst))), ∀ (a : Int × Unit), a = sumR
  (List.take x.fst.length (List.drop (0 : Nat) x.fst)) → ((0 : Nat) = (0 : Nat) ∧ x.fst.length = x.fst.length) ∧ HIs [HObj.box Md.rw (25 : Nat) [SV.data (K.flt
  Go.FloatKind.f64).slice s.fst, SV.data (K.int IntKind.i64).slice s.snd.fst, SV.data (K.int IntKind.i64).slice s.snd.snd.fst, SV.data (K.flt Go.FloatKind.f64).slice
  s.snd.snd.snd.fst, SV.val (Go.Value.int IntKind.i64 s.snd.snd.snd.snd.fst), SV.val (Go.Value.int IntKind.i64 s.snd.snd.snd.snd.snd)], HObj.dead, HObj.row Md.rw (5 : Nat) (K.int
  IntKind.u8) [IntKind.u8.wrap n], HObj.dead, HObj.dead, HObj.dead, HObj.dead, HObj.dead, HObj.dead, HObj.dead] [HObj.box Md.rw (25 : Nat) [SV.data (K.flt Go.FloatKind.f64).slice
  s.fst, SV.data (K.int IntKind.i64).slice s.snd.fst, SV.data (K.int IntKind.i64).slice s.snd.snd.fst, SV.data (K.flt Go.FloatKind.f64).slice s.snd.snd.snd.fst, SV.val (Go.Value.int
  IntKind.i64 s.snd.snd.snd.snd.fst), SV.val (Go.Value.int IntKind.i64 s.snd.snd.snd.snd.snd)], HObj.dead, HObj.row Md.rw (5 : Nat) (K.int IntKind.u8) [IntKind.u8.wrap n],
  HObj.dead, HObj.dead, HObj.dead, HObj.dead, HObj.dead, HObj.dead, HObj.dead] ∧ ∃ (I : List Int × Int × Int × Unit → Unit → Prop), ∃ (μ : List Int × Int × Int × Unit → Unit → Nat),
  I (x.fst, a.fst, (0 : Int), ()) () ∧ ∀ (x : List Int × Int × Int × Unit) (y : Unit), I x y → ∀ (a : Bool), a = decide (x.snd.snd.fst < (8 : Int)) → Br a (∃ (h : (256 : Int) ≠ (0 :
  Int)), ∃ (h : x.fst.length = x.fst.length ∧ (x.fst.length + (1 : Nat)) * (1 : Nat) ≤ (140737488355328 : Nat)), ∃ (h : (256 : Int) ≠ (0 : Int)), ((0 : Nat) = (0 : Nat) ∧
  x.fst.length + (1 : Nat) = (x.fst ++ [IntKind.u8.wrap (x.snd.fst.tmod (256 : Int))]).length) ∧ HIs [HObj.box Md.rw (25 : Nat) [SV.data (K.flt Go.FloatKind.f64).slice s.fst,
  SV.data (K.int IntKind.i64).slice s.snd.fst, SV.data (K.int IntKind.i64).slice s.snd.snd.fst, SV.data (K.flt Go.FloatKind.f64).slice s.snd.snd.snd.fst, SV.val (Go.Value.int
  IntKind.i64 s.snd.snd.snd.snd.fst), SV.val (Go.Value.int IntKind.i64 s.snd.snd.snd.snd.snd)], HObj.dead, HObj.row Md.rw (5 : Nat) (K.int IntKind.u8) [IntKind.u8.wrap n],
  HObj.dead, HObj.dead, HObj.dead, HObj.dead, HObj.dead, HObj.dead, HObj.dead] [HObj.box Md.rw (25 : Nat) [SV.data (K.flt Go.FloatKind.f64).slice s.fst, SV.data (K.int
  IntKind.i64).slice s.snd.fst, SV.data (K.int IntKind.i64).slice s.snd.snd.fst, SV.data (K.flt Go.FloatKind.f64).slice s.snd.snd.snd.fst, SV.val (Go.Value.int IntKind.i64
  s.snd.snd.snd.snd.fst), SV.val (Go.Value.int IntKind.i64 s.snd.snd.snd.snd.snd)], HObj.dead, HObj.row Md.rw (5 : Nat) (K.int IntKind.u8) [IntKind.u8.wrap n], HObj.dead, HObj.dead,
  HObj.dead, HObj.dead, HObj.dead, HObj.dead, HObj.dead] ∧ I (x.fst ++ [IntKind.u8.wrap (x.snd.fst.tmod (256 : Int))], IntKind.u64.wrap (x.snd.fst.tdiv (256 : Int)),
  IntKind.i64.wrap (x.snd.snd.fst + (1 : Int)), ()) () ∧ μ (x.fst ++ [IntKind.u8.wrap (x.snd.fst.tmod (256 : Int))], IntKind.u64.wrap (x.snd.fst.tdiv (256 : Int)), IntKind.i64.wrap
  (x.snd.snd.fst + (1 : Int)), ()) () < μ x y) (post (List.take x.fst.length (List.drop (0 : Nat) x.fst), (0 : Int), ())))))))))
theorem Lx_ref25_Encode (ty0 ty1 : Nat) (n : Int) (s : (List Nat) × (List Int) × (List Int) × (List Nat) × Int × Int) (h : WCheck n s) (w : KS.wf [.int .i64, kSea] (n, s, ())) : Fx_ref25_Encode ty0 ty1 n s (fun r => r = enR n s) := by
  have eta : (s.1, s.2.1, s.2.2.1, s.2.2.2.1, s.2.2.2.2.1, s.2.2.2.2.2) = s := rfl
  refine ⟨h, ?_⟩
  rintro _ rfl
  refine Br.intro (fun e => enI_bad e) fun e => ?_
  have e : (checkI n s).2 = 0 := by
    have e : (!((checkI n s).2 == 0)) = false := e
    simpa using e
  obtain ⟨hn, hnn, l1, l2, l3, l4⟩ := sea_sizes e
  obtain ⟨hI, hW1, hW2, hW3, hW4, hW5, hW6⟩ := h
  have hnn0 : 0 ≤ n * n := Int.mul_nonneg (by omega) (by omega)
  refine ⟨⟨by decide, rfl⟩, ⟨by decide, by decide, by decide⟩, ⟨rfl, rfl⟩, ?_⟩
  have headR : [(84 : Int), (65 : Int), (82 : Int), (78 : Int)] ++ [IntKind.u8.wrap n] = tarnL ++ [n % 256] := by rw [wrap_u8]; rfl
  rw [headR]
  obtain ⟨b0, e0⟩ : ∃ b0, b0 = tarnL ++ [n % 256] := ⟨_, rfl⟩
  have z0 : b0.length = 5 := by rw [e0]; rfl
  rw [← e0]
  refine putLoopR rfl rfl (by omega) (uw_rng _) ⟨⟨rfl, rfl⟩, ?_⟩
  dsimp only
  refine putLoopR rfl rfl (by rw [List.length_append, le8_len]; omega) (uw_rng _) ⟨⟨rfl, rfl⟩, ?_⟩
  dsimp only
  obtain ⟨b1, e1⟩ : ∃ b1, b1 = b0 ++ le8 (IntKind.u64.wrap s.2.2.2.2.2) ++ le8 (IntKind.u64.wrap s.2.2.2.2.1) := ⟨_, rfl⟩
  have z1 : b1.length = 21 := by rw [e1, List.length_append, List.length_append, le8_len, le8_len]; omega
  rw [← e1]
  refine forPut (n := s.1.length) (f := fun k => b1 ++ leS (fun i => ((s.1.getD i 0 : Nat) : Int)) k) rfl (List.append_nil _) (by omega) (fun I μ k y hk hi hm => ?_) ?_
  · dsimp only
    refine ⟨⟨by omega, by omega⟩, trivial, ⟨rfl, rfl⟩, putLoopR rfl rfl (by rw [List.length_append, leS_len]; omega) ?_ ⟨⟨rfl, rfl⟩, rfl, ?_, ?_⟩⟩
    · have := hW1 _ (getD_mem hk 0)
      unfold W64 at this
      exact ⟨Int.natCast_nonneg _, by show ((s.1.getD k 0 : Nat) : Int) < _; omega⟩
    · simp only [← leS_app] at hi; exact hi
    · simp only [← leS_app] at hm; exact hm
  dsimp only
  rw [leS_all s.1 0 (fun x : Nat => (x : Int))]
  obtain ⟨b2, e2⟩ : ∃ b2, b2 = b1 ++ leL (s.1.map fun (x : Nat) => (x : Int)) := ⟨_, rfl⟩
  have z2 : (b2.length : Int) = 21 + 8 * (6 * (n * n)) := by rw [e2, List.length_append, leL_len, List.length_map]; omega
  rw [← e2]
  refine ⟨⟨rfl, rfl⟩, ?_⟩
  refine forPut (n := s.2.1.length) (f := fun k => b2 ++ leS (fun i => uw (s.2.1.getD i 0)) k) rfl (List.append_nil _) (by omega) (fun I μ k y hk hi hm => ?_) ?_
  · dsimp only
    refine ⟨⟨by omega, by omega⟩, ⟨rfl, rfl⟩, putLoopR rfl rfl (by rw [List.length_append, leS_len]; omega) (uw_rng _) ⟨⟨rfl, rfl⟩, rfl, ?_, ?_⟩⟩
    · simp only [← leS_app] at hi; exact hi
    · simp only [← leS_app] at hm; exact hm
  dsimp only
  rw [leS_all s.2.1 0 uw]
  have z3 : ((b2 ++ leL (s.2.1.map uw)).length : Int) = 21 + 16 * (6 * (n * n)) := by rw [List.length_append, leL_len, List.length_map]; omega
  refine ⟨⟨rfl, rfl⟩, ?_⟩
  refine forPut (n := s.2.2.1.length) (f := fun k => b2 ++ leL (s.2.1.map uw) ++ leS (fun i => uw (s.2.2.1.getD i 0)) k) rfl (List.append_nil _) (by omega) (fun I μ k y hk hi hm => ?_) ?_
  · dsimp only
    refine ⟨⟨by omega, by omega⟩, ⟨rfl, rfl⟩, putLoopR rfl rfl (by rw [List.length_append, leS_len]; omega) (uw_rng _) ⟨⟨rfl, rfl⟩, rfl, ?_, ?_⟩⟩
    · simp only [← leS_app] at hi; exact hi
    · simp only [← leS_app] at hm; exact hm
  dsimp only
  rw [leS_all s.2.2.1 0 uw]
  obtain ⟨b4, e4⟩ : ∃ b4, b4 = b2 ++ leL (s.2.1.map uw) ++ leL (s.2.2.1.map uw) := ⟨_, rfl⟩
  have z4 : (b4.length : Int) = 21 + 24 * (6 * (n * n)) := by rw [e4, List.length_append, List.length_append, leL_len, leL_len, List.length_map, List.length_map]; omega
  rw [← e4]
  refine ⟨⟨rfl, rfl⟩, ?_⟩
  refine forPut (n := s.2.2.2.1.length) (f := fun k => b4 ++ leS (fun i => ((s.2.2.2.1.getD i 0 : Nat) : Int)) k) rfl (List.append_nil _) (by omega) (fun I μ k y hk hi hm => ?_) ?_
  · dsimp only
    refine ⟨⟨by omega, by omega⟩, trivial, ⟨rfl, rfl⟩, putLoopR rfl rfl (by rw [List.length_append, leS_len]; omega) ?_ ⟨⟨rfl, rfl⟩, rfl, ?_, ?_⟩⟩
    · have := hW4 _ (getD_mem hk 0)
      unfold W64 at this
      exact ⟨Int.natCast_nonneg _, by show ((s.2.2.2.1.getD k 0 : Nat) : Int) < _; omega⟩
    · simp only [← leS_app] at hi; exact hi
    · simp only [← leS_app] at hm; exact hm
  dsimp only
  rw [leS_all s.2.2.2.1 0 (fun x : Nat => (x : Int))]
  have e5 : b4 ++ leL (s.2.2.2.1.map fun (x : Nat) => (x : Int)) = seaL n s := by
    rw [e4, e2, e1, e0]
    simp only [seaL, headL, restL, List.append_assoc]
    rfl
  have z5 : ((seaL n s).length : Int) = 21 + 40 * (6 * (n * n)) := by rw [← e5, List.length_append, leL_len, List.length_map]; omega
  have r5 : BLs (seaL n s) := by
    rw [← e5, e4, e2, e1, e0]
    exact ((((((head_rng n).app (le8_rng _)).app (le8_rng _)).app (leL_rng _)).app (leL_rng _)).app (leL_rng _)).app (leL_rng _)
  rw [e5, List.drop_zero, List.take_length]
  refine ⟨r5, ?_⟩
  rintro _ rfl
  exact ⟨⟨rfl, rfl⟩, putLoopR rfl rfl (by omega) (sumR_rng _) (by dsimp only; rw [List.drop_zero, List.take_length]; exact enI_good e)⟩
end Go.Lift

set_option linter.unusedVariables false
set_option linter.unusedSimpArgs false
namespace Go.Lift
open Go.Proofs
def Nx_ref25_Encode : Cx := ⟨tabOf Ntab, conOf [(36, Nq_ref20_Check), (23, Nq_ref25_Sum), (94, Nq_raw_Bits)], NG⟩
theorem Nx_ref25_Encode_ok : CxOk Tryz.prog Nx_ref25_Encode := ⟨tabB_sound Ntab_ok, conOf_sound ⟨Nh_ref20_Check, Nh_ref25_Sum, Nh_raw_Bits, trivial⟩⟩
theorem Nat_ref25_Encode : FnAt Tryz.prog 18 Tryz.f18.ntmps Tryz.f18.results.toList (Tryz.f18.body.getD .skip) := ⟨Tryz.f18, Tryz.func18, rfl, rfl, by simp, by decide⟩
theorem Neq_ref25_Encode (n : Int) (s : (List Nat) × (List Int) × (List Int) × (List Nat) × Int × Int) (post : (List Int) × Int × Unit → Prop) : fnEvalI Nx_ref25_Encode Nhn_ref25_Encode (callLvl Nx_ref25_Encode Nfns_rput 6) Tryz.f18.ntmps Tryz.f18.results.toList (Tryz.f18.body.getD .skip) [.int .i64, kSea] [.snap (.slice (.int .u8)), .snap (.int .i64)] (n, s, ()) post = Fx_ref25_Encode 25 5 n s post := by kernel_rfl
theorem Nh_ref25_Encode : Nq_ref25_Encode.holds Tryz.prog NG 18 :=
  detPI Nx_ref25_Encode_ok Nmixed Nhn_ref25_Encode (callLvl_ok Nx_ref25_Encode_ok Nmixed Nfns_rput_ok 6) Nat_ref25_Encode (F := fun x post => Fx_ref25_Encode 25 5 x.1 x.2.1 post) (fun x post => Neq_ref25_Encode x.1 x.2.1 post) fun x h w => Lx_ref25_Encode 25 5 x.1 x.2.1 h w
end Go.Lift

set_option linter.unusedVariables false
set_option linter.unusedSimpArgs false
namespace Go.Lift
open Go.Proofs
def Nx_law25_SaveEncodes : Cx := ⟨tabOf Ntab, conOf [(16, Nq_law25_lives), (17, Nq_save_Encode), (18, Nq_ref25_Encode)], NG⟩
theorem Nx_law25_SaveEncodes_ok : CxOk Tryz.prog Nx_law25_SaveEncodes := ⟨tabB_sound Ntab_ok, conOf_sound ⟨Nh_law25_lives, Nh_save_Encode, Nh_ref25_Encode, trivial⟩⟩
theorem Nat_law25_SaveEncodes : FnAt Tryz.prog 4 Tryz.f4.ntmps Tryz.f4.results.toList (Tryz.f4.body.getD .skip) := ⟨Tryz.f4, Tryz.func4, rfl, rfl, by simp, by decide⟩
theorem Neq_law25_SaveEncodes (n : Int) (s : (List Nat) × (List Int) × (List Int) × (List Nat) × Int × Int) (post : Bool × Unit → Prop) : fnEval Nx_law25_SaveEncodes Nhn_law25_SaveEncodes Tryz.f4.ntmps Tryz.f4.results.toList (Tryz.f4.body.getD .skip) [.int .i64, kSea] [.snap .bool] (n, s, ()) post = Fx_law25_SaveEncodes  n s post := by kernel_rfl
theorem Nh_law25_SaveEncodes : Nq_law25_SaveEncodes.holds Tryz.prog NG 4 :=
  detP Nx_law25_SaveEncodes_ok Nmixed Nhn_law25_SaveEncodes Nat_law25_SaveEncodes (F := fun x post => Fx_law25_SaveEncodes  x.1 x.2.1 post) (fun x post => Neq_law25_SaveEncodes x.1 x.2.1 post) fun x h w => Lx_law25_SaveEncodes  x.1 x.2.1 h w
end Go.Lift

namespace Go.Proofs.YtomopcclgokehaaGreatDoor
open Go.Lift
theorem saveEncodes_law : LawSpec Rows.saveEncodesSpec 2 := ⟨rfl, fun H ds h => by
  match ds, h with
  | [d1, d2], _ => rfl⟩
set_option maxRecDepth 100000 in
theorem saveEncodes_lifted (os : Os) (started : os.Started) (H : Type) (enc : TypeId × Value → H) :
    ReturnsInHanded {} Tryz.checked os 4 .any (fun w args => (Rows.saveEncodesSpec.pre enc Tryz.prog Tryz.f4 [] false w args ∧ laidMetH Tryz.prog laidL w) ∧ sizedMet enc Tryz.prog Tryz.f4 (OpenSpec.ofChange Rows.saveEncodesSpec) false w args) (Rows.saveEncodesSpec.post enc Tryz.prog Tryz.f4 false true false false) :=
  law_laid (C := Tryz.checked) (X := fun w _ => laidMetH Tryz.prog laidL w) (fun _ _ _ hh h => h.of_heap hh) (fun w _ h => laid_globs w h) own started (by kernel_rfl) Tryz.func4 rfl (by decide)
    (ChangeSpec.witness_shaped (enc := enc) (C := Tryz.checked) (os := os) (X := fun w _ => laidMetH Tryz.prog laidL w) false (World.doorLaid Tryz.prog 400 os) #[.int .i64 0, .agg #[.slice none 0 0, .slice none 0 0, .slice none 0 0, .slice none 0 0, .int .i64 0, .int .i64 0]] 12 rfl (World.shaped_of_RefB (by kernel_rfl) (by kernel_rfl)) (by kernel_rfl) (by kernel_rfl) (by kernel_rfl) (door_met os _))
    laidOut (ktsB_sound _ [.int .i64, kSea] (by kernel_rfl)) (by decide +kernel) rfl (by kernel_rfl) saveEncodes_law Nh_law25_SaveEncodes (fun x h w => ⟨rngI h.1, rngSe h.2.1⟩)
theorem saveEncodes_holds : Rows.SaveEncodesSaid :=
  OpenClaim.holds_of_wide 4 Tryz.f4 rfl rfl rfl rfl rfl rfl rfl ⟨rfl, rfl, rfl, rfl, rfl⟩ rfl rfl rfl rfl rfl (by kernel_rfl) Tryz.func4 (by kernel_rfl)
    (of_decide_eq_true (by kernel_rfl)) (by unfold Func.isWrapper; first | (rw [if_pos (by decide +kernel)]; kernel_rfl) | (rw [if_neg (by decide +kernel)]; exact ⟨rfl, rfl⟩))
    (fun os started H enc _ => saveEncodes_lifted os started H enc)
theorem saveEncodes_card : Rows.SaveEncodesCardSaid :=
  Claim7.holds_tied_plain_at .later [] [.wider, .data] true (true, "2273f09aaa9b9b1a38ee314dd1dcc464b3e9af4b3fa99a5ece1fa69518c1ab6d") true
    saveEncodes_holds (fun _ h => by cases h) (by kernel_rfl) (fun _ h => by cases h) saveEncodes_row_tie rfl ⟨rfl, rfl⟩ (by kernel_rfl) rfl
    (fun f fn hf hfn => by
      obtain rfl : f = 4 := Option.some.inj ((show Tryz.prog.funcNamed "tarn/tarnlaw25.SaveEncodes" = some 4 by kernel_rfl).symm.trans hf) |>.symm
      obtain rfl : fn = Tryz.f4 := (Option.some.inj (Tryz.func4.symm.trans hfn)).symm
      exact ⟨by kernel_rfl, fun j t ht => by
        rw [Tryz.params4] at ht
        have hm : t ∈ [3, 25] := by simpa using Array.mem_of_getElem? ht
        have hall : ([3, 25].all fun u => !Tryz.prog.wantsStandIn u) = true := by kernel_rfl
        exact (show Tryz.prog.wantsStandIn t = false by simpa using List.all_eq_true.1 hall t hm)⟩)
    (by kernel_rfl)
end Go.Proofs.YtomopcclgokehaaGreatDoor
