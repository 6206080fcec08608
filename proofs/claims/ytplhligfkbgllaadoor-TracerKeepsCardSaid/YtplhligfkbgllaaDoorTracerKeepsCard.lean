/- tarnlaw17.TracerKeeps: at every input it returns true and leaves the arguments as they were; cube.frames and geom.frames read as the program's text lays them. -/
import Derived.Test.YtplhligfkbgllaaDoorTie
import Derived.Test.YtplhligfkbgllaaDoorCards
import Derived.Test.YtplhligfkbgllaaDoorPtE
set_option linter.unusedVariables false
set_option linter.unusedSimpArgs false
set_option linter.unusedSectionVars false
set_option linter.unusedVariables false
set_option linter.unusedSimpArgs false
namespace Go.Lift
def Fx_geom_ratio := fun (a b : Int) (post : Nat × Unit → Prop) => ∀ (a_1 : Nat), FRes Go.FloatKind.f64 (Go.FloatKind.f64.format.div (Go.FloatKind.f64.nearest a)
  (Go.FloatKind.f64.nearest b)) a_1 → post (a_1, ())
theorem Lx_geom_ratio (a : Int) (b : Int) (h : WRatio a b) : Fx_geom_ratio  a b (fun r => r = ratioR a b) := by
  intro r hr
  exact congrArg r1 (div_ofI h.1 h.2.1 h.2.2 hr)
def Fx_geom_point := fun (ty72 ty98 : Nat) (f : Int) (s t : Nat) (post : (Nat × Nat × Nat) × Unit → Prop) => ∃ (post_1 : Unit → List Nat × Unit → Prop), (∃ (h : (0 : Int) ≤ (0 :
  Int) ∧ (0 : Int) < (↑(3 : Nat) : Int)), ∃ (h : (0 : Int) ≤ f ∧ f < (↑(6 : Nat) : Int)), ∃ (h : (0 : Int) ≤ (0 : Int) ∧ (0 : Int) < (↑(3 : Nat) : Int)), ∃ (h : (0 : Int) ≤ (0 :
  Int) ∧ (0 : Int) < (↑(3 : Nat) : Int)), Br (List.getD (List.getD (framesL.getD f.toNat (K.arr (3 : Nat) (K.arr (3 : Nat) (K.int IntKind.i64))).dflt) (Int.toNat (0 : Int)) (K.arr
  (3 : Nat) (K.int IntKind.i64)).dflt) (Int.toNat (0 : Int)) (0 : Int) == (1 : Int)) (∃ (h : True), ∃ (h : (0 : Int) ≤ (0 : Int) ∧ (0 : Int) < (↑(3 : Nat) : Int) ∧ (3 : Nat) ≤
  (List.replicate (3 : Nat) (0 : Nat)).length), HIs [HObj.box Md.rw ty72 [SV.val (Go.Value.float Go.FloatKind.f64 (0 : Nat)), SV.val (Go.Value.float Go.FloatKind.f64 (0 : Nat)),
  SV.val (Go.Value.float Go.FloatKind.f64 (0 : Nat))], HObj.row Md.rw ty98 (K.flt Go.FloatKind.f64) ((List.replicate (3 : Nat) (0 : Nat)).set (Int.toNat (0 : Int)) (canonR
  ([(4607182418800017408 : Nat), s, t].getD (Int.toNat (0 : Int)) (0 : Nat))).fst)] [HObj.box Md.rw ty72 [SV.val (Go.Value.float Go.FloatKind.f64 (0 : Nat)), SV.val (Go.Value.float
  Go.FloatKind.f64 (0 : Nat)), SV.val (Go.Value.float Go.FloatKind.f64 (0 : Nat))], HObj.row Md.rw ty98 (K.flt Go.FloatKind.f64) ((List.replicate (3 : Nat) (0 : Nat)).set (Int.toNat
  (0 : Int)) (canonR ([(4607182418800017408 : Nat), s, t].getD (Int.toNat (0 : Int)) (0 : Nat))).fst)] ∧ post_1 () ((List.replicate (3 : Nat) (0 : Nat)).set (Int.toNat (0 : Int))
  (canonR ([(4607182418800017408 : Nat), s, t].getD (Int.toNat (0 : Int)) (0 : Nat))).fst, ())) (Br (List.getD (List.getD (framesL.getD f.toNat (K.arr (3 : Nat) (K.arr (3 : Nat)
  (K.int IntKind.i64))).dflt) (Int.toNat (0 : Int)) (K.arr (3 : Nat) (K.int IntKind.i64)).dflt) (Int.toNat (0 : Int)) (0 : Int) == (-1 : Int)) (∃ (h : True), ∃ (h : (0 : Int) ≤ (0 :
  Int) ∧ (0 : Int) < (↑(3 : Nat) : Int) ∧ (3 : Nat) ≤ (List.replicate (3 : Nat) (0 : Nat)).length), HIs [HObj.box Md.rw ty72 [SV.val (Go.Value.float Go.FloatKind.f64 (0 : Nat)),
  SV.val (Go.Value.float Go.FloatKind.f64 (0 : Nat)), SV.val (Go.Value.float Go.FloatKind.f64 (0 : Nat))], HObj.row Md.rw ty98 (K.flt Go.FloatKind.f64) ((List.replicate (3 : Nat) (0
  : Nat)).set (Int.toNat (0 : Int)) (canonR (Go.Op.negFloat Go.FloatKind.f64 ([(4607182418800017408 : Nat), s, t].getD (Int.toNat (0 : Int)) (0 : Nat)))).fst)] [HObj.box Md.rw ty72
  [SV.val (Go.Value.float Go.FloatKind.f64 (0 : Nat)), SV.val (Go.Value.float Go.FloatKind.f64 (0 : Nat)), SV.val (Go.Value.float Go.FloatKind.f64 (0 : Nat))], HObj.row Md.rw ty98
  (K.flt Go.FloatKind.f64) ((List.replicate (3 : Nat) (0 : Nat)).set (Int.toNat (0 : Int)) (canonR (Go.Op.negFloat Go.FloatKind.f64 ([(4607182418800017408 : Nat), s, t].getD
  (Int.toNat (0 : Int)) (0 : Nat)))).fst)] ∧ post_1 () ((List.replicate (3 : Nat) (0 : Nat)).set (Int.toNat (0 : Int)) (canonR (Go.Op.negFloat Go.FloatKind.f64
  ([(4607182418800017408 : Nat), s, t].getD (Int.toNat (0 : Int)) (0 : Nat)))).fst, ())) (HIs [HObj.box Md.rw ty72 [SV.val (Go.Value.float Go.FloatKind.f64 (0 : Nat)), SV.val
  (Go.Value.float Go.FloatKind.f64 (0 : Nat)), SV.val (Go.Value.float Go.FloatKind.f64 (0 : Nat))], HObj.row Md.rw ty98 (K.flt Go.FloatKind.f64) (List.replicate (3 : Nat) (0 :
  Nat))] [HObj.box Md.rw ty72 [SV.val (Go.Value.float Go.FloatKind.f64 (0 : Nat)), SV.val (Go.Value.float Go.FloatKind.f64 (0 : Nat)), SV.val (Go.Value.float Go.FloatKind.f64 (0 :
  Nat))], HObj.row Md.rw ty98 (K.flt Go.FloatKind.f64) (List.replicate (3 : Nat) (0 : Nat))] ∧ post_1 () (List.replicate (3 : Nat) (0 : Nat), ())))) ∧ ∀ (x : Unit) (y : List Nat ×
  Unit), post_1 x y → ∃ (post_2 : Unit → List Nat × Unit → Prop), (∃ (h : (0 : Int) ≤ IntKind.i64.wrap ((0 : Int) + (1 : Int)) ∧ IntKind.i64.wrap ((0 : Int) + (1 : Int)) < (↑(3 :
  Nat) : Int)), ∃ (h : (0 : Int) ≤ f ∧ f < (↑(6 : Nat) : Int)), ∃ (h : (0 : Int) ≤ IntKind.i64.wrap ((0 : Int) + (1 : Int)) ∧ IntKind.i64.wrap ((0 : Int) + (1 : Int)) < (↑(3 : Nat)
  : Int)), ∃ (h : (0 : Int) ≤ (0 : Int) ∧ (0 : Int) < (↑(3 : Nat) : Int)), Br (List.getD (List.getD (framesL.getD f.toNat (K.arr (3 : Nat) (K.arr (3 : Nat) (K.int
  IntKind.i64))).dflt) (IntKind.i64.wrap ((0 : Int) + (1 : Int))).toNat (K.arr (3 : Nat) (K.int IntKind.i64)).dflt) (Int.toNat (0 : Int)) (0 : Int) == (1 : Int)) (∃ (h : True), ∃ (h
  : (0 : Int) ≤ (0 : Int) ∧ (0 : Int) < (↑(3 : Nat) : Int) ∧ (3 : Nat) ≤ y.fst.length), HIs [HObj.box Md.rw ty72 [SV.val (Go.Value.float Go.FloatKind.f64 (0 : Nat)), SV.val
  (Go.Value.float Go.FloatKind.f64 (0 : Nat)), SV.val (Go.Value.float Go.FloatKind.f64 (0 : Nat))], HObj.row Md.rw ty98 (K.flt Go.FloatKind.f64) (y.fst.set (Int.toNat (0 : Int))
  (canonR ([(4607182418800017408 : Nat), s, t].getD (IntKind.i64.wrap ((0 : Int) + (1 : Int))).toNat (0 : Nat))).fst)] [HObj.box Md.rw ty72 [SV.val (Go.Value.float Go.FloatKind.f64
  (0 : Nat)), SV.val (Go.Value.float Go.FloatKind.f64 (0 : Nat)), SV.val (Go.Value.float Go.FloatKind.f64 (0 : Nat))], HObj.row Md.rw ty98 (K.flt Go.FloatKind.f64) (y.fst.set
  (Int.toNat (0 : Int)) (canonR ([(4607182418800017408 : Nat), s, t].getD (IntKind.i64.wrap ((0 : Int) + (1 : Int))).toNat (0 : Nat))).fst)] ∧ post_2 () (y.fst.set (Int.toNat (0 :
  Int)) (canonR ([(4607182418800017408 : Nat), s, t].getD (IntKind.i64.wrap ((0 : Int) + (1 : Int))).toNat (0 : Nat))).fst, ())) (Br (List.getD (List.getD (framesL.getD f.toNat
  (K.arr (3 : Nat) (K.arr (3 : Nat) (K.int IntKind.i64))).dflt) (IntKind.i64.wrap ((0 : Int) + (1 : Int))).toNat (K.arr (3 : Nat) (K.int IntKind.i64)).dflt) (Int.toNat (0 : Int)) (0
  : Int) == (-1 : Int)) (∃ (h : True), ∃ (h : (0 : Int) ≤ (0 : Int) ∧ (0 : Int) < (↑(3 : Nat) : Int) ∧ (3 : Nat) ≤ y.fst.length), HIs [HObj.box Md.rw ty72 [SV.val (Go.Value.float
  Go.FloatKind.f64 (0 : Nat)), SV.val (Go.Value.float Go.FloatKind.f64 (0 : Nat)), SV.val (Go.Value.float Go.FloatKind.f64 (0 : Nat))], HObj.row Md.rw ty98 (K.flt Go.FloatKind.f64)
  (y.fst.set (Int.toNat (0 : Int)) (canonR (Go.Op.negFloat Go.FloatKind.f64 ([(4607182418800017408 : Nat), s, t].getD (IntKind.i64.wrap ((0 : Int) + (1 : Int))).toNat (0 :
  Nat)))).fst)] [HObj.box Md.rw ty72 [SV.val (Go.Value.float Go.FloatKind.f64 (0 : Nat)), SV.val (Go.Value.float Go.FloatKind.f64 (0 : Nat)), SV.val (Go.Value.float Go.FloatKind.f64
  (0 : Nat))], HObj.row Md.rw ty98 (K.flt Go.FloatKind.f64) (y.fst.set (Int.toNat (0 : Int)) (canonR (Go.Op.negFloat Go.FloatKind.f64 ([(4607182418800017408 : Nat), s, t].getD
  (IntKind.i64.wrap ((0 : Int) + (1 : Int))).toNat (0 : Nat)))).fst)] ∧ post_2 () (y.fst.set (Int.toNat (0 : Int)) (canonR (Go.Op.negFloat Go.FloatKind.f64 ([(4607182418800017408 :
  Nat), s, t].getD (IntKind.i64.wrap ((0 : Int) + (1 : Int))).toNat (0 : Nat)))).fst, ())) (HIs [HObj.box Md.rw ty72 [SV.val (Go.Value.float Go.FloatKind.f64 (0 : Nat)), SV.val
  (Go.Value.float Go.FloatKind.f64 (0 : Nat)), SV.val (Go.Value.float Go.FloatKind.f64 (0 : Nat))], HObj.row Md.rw ty98 (K.flt Go.FloatKind.f64) y.fst] [HObj.box Md.rw ty72 [SV.val
  (Go.Value.float Go.FloatKind.f64 (0 : Nat)), SV.val (Go.Value.float Go.FloatKind.f64 (0 : Nat)), SV.val (Go.Value.float Go.FloatKind.f64 (0 : Nat))], HObj.row Md.rw ty98 (K.flt
  Go.FloatKind.f64) y.fst] ∧ post_2 () (y.fst, ())))) ∧ ∀ (x : Unit) (y : List Nat × Unit), post_2 x y → ∃ (post_3 : Unit → List Nat × Unit → Prop), (∃ (h : (0 : Int) ≤
  IntKind.i64.wrap (IntKind.i64.wrap ((0 : Int) + (1 : Int)) + (1 : Int)) ∧ IntKind.i64.wrap (IntKind.i64.wrap ((0 : Int) + (1 : Int)) + (1 : Int)) < (↑(3 : Nat) : Int)), ∃ (h : (0
  : Int) ≤ f ∧ f < (↑(6 : Nat) : Int)), ∃ (h : (0 : Int) ≤ IntKind.i64.wrap (IntKind.i64.wrap ((0 : Int) + (1 : Int)) + (1 : Int)) ∧ IntKind.i64.wrap (IntKind.i64.wrap ((0 : Int) +
  (1 : Int)) + (1 : Int)) < (↑(3 : Nat) : Int)), ∃ (h : (0 : Int) ≤ (0 : Int) ∧ (0 : Int) < (↑(3 : Nat) : Int)), Br (List.getD (List.getD (framesL.getD f.toNat (K.arr (3 : Nat)
  (K.arr (3 : Nat) (K.int IntKind.i64))).dflt) (IntKind.i64.wrap (IntKind.i64.wrap ((0 : Int) + (1 : Int)) + (1 : Int))).toNat (K.arr (3 : Nat) (K.int IntKind.i64)).dflt) (Int.toNat
  (0 : Int)) (0 : Int) == (1 : Int)) (∃ (h : True), ∃ (h : (0 : Int) ≤ (0 : Int) ∧ (0 : Int) < (↑(3 : Nat) : Int) ∧ (3 : Nat) ≤ y.fst.length), HIs [HObj.box Md.rw ty72 [SV.val
  (Go.Value.float Go.FloatKind.f64 (0 : Nat)), SV.val (Go.Value.float Go.FloatKind.f64 (0 : Nat)), SV.val (Go.Value.float Go.FloatKind.f64 (0 : Nat))], HObj.row Md.rw ty98 (K.flt
  Go.FloatKind.f64) (y.fst.set (Int.toNat (0 : Int)) (canonR ([(4607182418800017408 : Nat), s, t].getD (IntKind.i64.wrap (IntKind.i64.wrap ((0 : Int) + (1 : Int)) + (1 :
  Int))).toNat (0 : Nat))).fst)] [HObj.box Md.rw ty72 [SV.val (Go.Value.float Go.FloatKind.f64 (0 : Nat)), SV.val (Go.Value.float Go.FloatKind.f64 (0 : Nat)), SV.val (Go.Value.float
  Go.FloatKind.f64 (0 : Nat))], HObj.row Md.rw ty98 (K.flt Go.FloatKind.f64) (y.fst.set (Int.toNat (0 : Int)) (canonR ([(4607182418800017408 : Nat), s, t].getD (IntKind.i64.wrap
  (IntKind.i64.wrap ((0 : Int) + (1 : Int)) + (1 : Int))).toNat (0 : Nat))).fst)] ∧ post_3 () (y.fst.set (Int.toNat (0 : Int)) (canonR ([(4607182418800017408 : Nat), s, t].getD
  (IntKind.i64.wrap (IntKind.i64.wrap ((0 : Int) + (1 : Int)) + (1 : Int))).toNat (0 : Nat))).fst, ())) (Br (List.getD (List.getD (framesL.getD f.toNat (K.arr (3 : Nat) (K.arr (3 :
  Nat) (K.int IntKind.i64))).dflt) (IntKind.i64.wrap (IntKind.i64.wrap ((0 : Int) + (1 : Int)) + (1 : Int))).toNat (K.arr (3 : Nat) (K.int IntKind.i64)).dflt) (Int.toNat (0 : Int))
  (0 : Int) == (-1 : Int)) (∃ (h : True), ∃ (h : (0 : Int) ≤ (0 : Int) ∧ (0 : Int) < (↑(3 : Nat) : Int) ∧ (3 : Nat) ≤ y.fst.length), HIs [HObj.box Md.rw ty72 [SV.val (Go.Value.float
  Go.FloatKind.f64 (0 : Nat)), SV.val (Go.Value.float Go.FloatKind.f64 (0 : Nat)), SV.val (Go.Value.float Go.FloatKind.f64 (0 : Nat))], HObj.row Md.rw ty98 (K.flt Go.FloatKind.f64)
  (y.fst.set (Int.toNat (0 : Int)) (canonR (Go.Op.negFloat Go.FloatKind.f64 ([(4607182418800017408 : Nat), s, t].getD (IntKind.i64.wrap (IntKind.i64.wrap ((0 : Int) + (1 : Int)) +
  (1 : Int))).toNat (0 : Nat)))).fst)] [HObj.box Md.rw ty72 [SV.val (Go.Value.float Go.FloatKind.f64 (0 : Nat)), SV.val (Go.Value.float Go.FloatKind.f64 (0 : Nat)), SV.val
  (Go.Value.float Go.FloatKind.f64 (0 : Nat))], HObj.row Md.rw ty98 (K.flt Go.FloatKind.f64) (y.fst.set (Int.toNat (0 : Int)) (canonR (Go.Op.negFloat Go.FloatKind.f64
  ([(4607182418800017408 : Nat), s, t].getD (IntKind.i64.wrap (IntKind.i64.wrap ((0 : Int) + (1 : Int)) + (1 : Int))).toNat (0 : Nat)))).fst)] ∧ post_3 () (y.fst.set (Int.toNat (0 :
  Int)) (canonR (Go.Op.negFloat Go.FloatKind.f64 ([(4607182418800017408 : Nat), s, t].getD (IntKind.i64.wrap (IntKind.i64.wrap ((0 : Int) + (1 : Int)) + (1 : Int))).toNat (0 :
  Nat)))).fst, ())) (HIs [HObj.box Md.rw ty72 [SV.val (Go.Value.float Go.FloatKind.f64 (0 : Nat)), SV.val (Go.Value.float Go.FloatKind.f64 (0 : Nat)), SV.val (Go.Value.float
  Go.FloatKind.f64 (0 : Nat))], HObj.row Md.rw ty98 (K.flt Go.FloatKind.f64) y.fst] [HObj.box Md.rw ty72 [SV.val (Go.Value.float Go.FloatKind.f64 (0 : Nat)), SV.val (Go.Value.float
  Go.FloatKind.f64 (0 : Nat)), SV.val (Go.Value.float Go.FloatKind.f64 (0 : Nat))], HObj.row Md.rw ty98 (K.flt Go.FloatKind.f64) y.fst] ∧ post_3 () (y.fst, ())))) ∧ ∀ (x : Unit) (y
  : List Nat × Unit), post_3 x y → ∃ (post_4 : Unit → List Nat × Unit → Prop), (∃ (h : (0 : Int) ≤ (0 : Int) ∧ (0 : Int) < (↑(3 : Nat) : Int)), ∃ (h : (0 : Int) ≤ f ∧ f < (↑(6 :
  Nat) : Int)), ∃ (h : (0 : Int) ≤ (0 : Int) ∧ (0 : Int) < (↑(3 : Nat) : Int)), ∃ (h : (0 : Int) ≤ IntKind.i64.wrap ((0 : Int) + (1 : Int)) ∧ IntKind.i64.wrap ((0 : Int) + (1 :
  Int)) < (↑(3 : Nat) : Int)), Br (List.getD (List.getD (framesL.getD f.toNat (K.arr (3 : Nat) (K.arr (3 : Nat) (K.int IntKind.i64))).dflt) (Int.toNat (0 : Int)) (K.arr (3 : Nat)
  (K.int IntKind.i64)).dflt) (IntKind.i64.wrap ((0 : Int) + (1 : Int))).toNat (0 : Int) == (1 : Int)) (∃ (h : True), ∃ (h : (0 : Int) ≤ IntKind.i64.wrap ((0 : Int) + (1 : Int)) ∧
  IntKind.i64.wrap ((0 : Int) + (1 : Int)) < (↑(3 : Nat) : Int) ∧ (3 : Nat) ≤ y.fst.length), HIs [HObj.box Md.rw ty72 [SV.val (Go.Value.float Go.FloatKind.f64 (0 : Nat)), SV.val
  (Go.Value.float Go.FloatKind.f64 (0 : Nat)), SV.val (Go.Value.float Go.FloatKind.f64 (0 : Nat))], HObj.row Md.rw ty98 (K.flt Go.FloatKind.f64) (y.fst.set (IntKind.i64.wrap ((0 :
  Int) + (1 : Int))).toNat (canonR ([(4607182418800017408 : Nat), s, t].getD (Int.toNat (0 : Int)) (0 : Nat))).fst)] [HObj.box Md.rw ty72 [SV.val (Go.Value.float Go.FloatKind.f64 (0
  : Nat)), SV.val (Go.Value.float Go.FloatKind.f64 (0 : Nat)), SV.val (Go.Value.float Go.FloatKind.f64 (0 : Nat))], HObj.row Md.rw ty98 (K.flt Go.FloatKind.f64) (y.fst.set
  (IntKind.i64.wrap ((0 : Int) + (1 : Int))).toNat (canonR ([(4607182418800017408 : Nat), s, t].getD (Int.toNat (0 : Int)) (0 : Nat))).fst)] ∧ post_4 () (y.fst.set (IntKind.i64.wrap
  ((0 : Int) + (1 : Int))).toNat (canonR ([(4607182418800017408 : Nat), s, t].getD (Int.toNat (0 : Int)) (0 : Nat))).fst, ())) (Br (List.getD (List.getD (framesL.getD f.toNat (K.arr
  (3 : Nat) (K.arr (3 : Nat) (K.int IntKind.i64))).dflt) (Int.toNat (0 : Int)) (K.arr (3 : Nat) (K.int IntKind.i64)).dflt) (IntKind.i64.wrap ((0 : Int) + (1 : Int))).toNat (0 : Int)
  == (-1 : Int)) (∃ (h : True), ∃ (h : (0 : Int) ≤ IntKind.i64.wrap ((0 : Int) + (1 : Int)) ∧ IntKind.i64.wrap ((0 : Int) + (1 : Int)) < (↑(3 : Nat) : Int) ∧ (3 : Nat) ≤
  y.fst.length), HIs [HObj.box Md.rw ty72 [SV.val (Go.Value.float Go.FloatKind.f64 (0 : Nat)), SV.val (Go.Value.float Go.FloatKind.f64 (0 : Nat)), SV.val (Go.Value.float
  Go.FloatKind.f64 (0 : Nat))], HObj.row Md.rw ty98 (K.flt Go.FloatKind.f64) (y.fst.set (IntKind.i64.wrap ((0 : Int) + (1 : Int))).toNat (canonR (Go.Op.negFloat Go.FloatKind.f64
  ([(4607182418800017408 : Nat), s, t].getD (Int.toNat (0 : Int)) (0 : Nat)))).fst)] [HObj.box Md.rw ty72 [SV.val (Go.Value.float Go.FloatKind.f64 (0 : Nat)), SV.val (Go.Value.float
  Go.FloatKind.f64 (0 : Nat)), SV.val (Go.Value.float Go.FloatKind.f64 (0 : Nat))], HObj.row Md.rw ty98 (K.flt Go.FloatKind.f64) (y.fst.set (IntKind.i64.wrap ((0 : Int) + (1 :
  Int))).toNat (canonR (Go.Op.negFloat Go.FloatKind.f64 ([(4607182418800017408 : Nat), s, t].getD (Int.toNat (0 : Int)) (0 : Nat)))).fst)] ∧ post_4 () (y.fst.set (IntKind.i64.wrap
  ((0 : Int) + (1 : Int))).toNat (canonR (Go.Op.negFloat Go.FloatKind.f64 ([(4607182418800017408 : Nat), s, t].getD (Int.toNat (0 : Int)) (0 : Nat)))).fst, ())) (HIs [HObj.box Md.rw
  ty72 [SV.val (Go.Value.float Go.FloatKind.f64 (0 : Nat)), SV.val (Go.Value.float Go.FloatKind.f64 (0 : Nat)), SV.val (Go.Value.float Go.FloatKind.f64 (0 : Nat))], HObj.row Md.rw
  ty98 (K.flt Go.FloatKind.f64) y.fst] [HObj.box Md.rw ty72 [SV.val (Go.Value.float Go.FloatKind.f64 (0 : Nat)), SV.val (Go.Value.float Go.FloatKind.f64 (0 : Nat)), SV.val
  (Go.Value.float Go.FloatKind.f64 (0 : Nat))], HObj.row Md.rw ty98 (K.flt Go.FloatKind.f64) y.fst] ∧ post_4 () (y.fst, ())))) ∧ ∀ (x : Unit) (y : List Nat × Unit), post_4 x y → ∃
  (post_5 : Unit → List Nat × Unit → Prop), (∃ (h : (0 : Int) ≤ IntKind.i64.wrap ((0 : Int) + (1 : Int)) ∧ IntKind.i64.wrap ((0 : Int) + (1 : Int)) < (↑(3 : Nat) : Int)), ∃ (h : (0
  : Int) ≤ f ∧ f < (↑(6 : Nat) : Int)), ∃ (h : (0 : Int) ≤ IntKind.i64.wrap ((0 : Int) + (1 : Int)) ∧ IntKind.i64.wrap ((0 : Int) + (1 : Int)) < (↑(3 : Nat) : Int)), ∃ (h : (0 :
  Int) ≤ IntKind.i64.wrap ((0 : Int) + (1 : Int)) ∧ IntKind.i64.wrap ((0 : Int) + (1 : Int)) < (↑(3 : Nat) : Int)), Br (List.getD (List.getD (framesL.getD f.toNat (K.arr (3 : Nat)
  (K.arr (3 : Nat) (K.int IntKind.i64))).dflt) (IntKind.i64.wrap ((0 : Int) + (1 : Int))).toNat (K.arr (3 : Nat) (K.int IntKind.i64)).dflt) (IntKind.i64.wrap ((0 : Int) + (1 :
  Int))).toNat (0 : Int) == (1 : Int)) (∃ (h : True), ∃ (h : (0 : Int) ≤ IntKind.i64.wrap ((0 : Int) + (1 : Int)) ∧ IntKind.i64.wrap ((0 : Int) + (1 : Int)) < (↑(3 : Nat) : Int) ∧
  (3 : Nat) ≤ y.fst.length), HIs [HObj.box Md.rw ty72 [SV.val (Go.Value.float Go.FloatKind.f64 (0 : Nat)), SV.val (Go.Value.float Go.FloatKind.f64 (0 : Nat)), SV.val (Go.Value.float
  Go.FloatKind.f64 (0 : Nat))], HObj.row Md.rw ty98 (K.flt Go.FloatKind.f64) (y.fst.set (IntKind.i64.wrap ((0 : Int) + (1 : Int))).toNat (canonR ([(4607182418800017408 : Nat), s,
  t].getD (IntKind.i64.wrap ((0 : Int) + (1 : Int))).toNat (0 : Nat))).fst)] [HObj.box Md.rw ty72 [SV.val (Go.Value.float Go.FloatKind.f64 (0 : Nat)), SV.val (Go.Value.float
  Go.FloatKind.f64 (0 : Nat)), SV.val (Go.Value.float Go.FloatKind.f64 (0 : Nat))], HObj.row Md.rw ty98 (K.flt Go.FloatKind.f64) (y.fst.set (IntKind.i64.wrap ((0 : Int) + (1 :
  Int))).toNat (canonR ([(4607182418800017408 : Nat), s, t].getD (IntKind.i64.wrap ((0 : Int) + (1 : Int))).toNat (0 : Nat))).fst)] ∧ post_5 () (y.fst.set (IntKind.i64.wrap ((0 :
  Int) + (1 : Int))).toNat (canonR ([(4607182418800017408 : Nat), s, t].getD (IntKind.i64.wrap ((0 : Int) + (1 : Int))).toNat (0 : Nat))).fst, ())) (Br (List.getD (List.getD
  (framesL.getD f.toNat (K.arr (3 : Nat) (K.arr (3 : Nat) (K.int IntKind.i64))).dflt) (IntKind.i64.wrap ((0 : Int) + (1 : Int))).toNat (K.arr (3 : Nat) (K.int IntKind.i64)).dflt)
  (IntKind.i64.wrap ((0 : Int) + (1 : Int))).toNat (0 : Int) == (-1 : Int)) (∃ (h : True), ∃ (h : (0 : Int) ≤ IntKind.i64.wrap ((0 : Int) + (1 : Int)) ∧ IntKind.i64.wrap ((0 : Int)
  + (1 : Int)) < (↑(3 : Nat) : Int) ∧ (3 : Nat) ≤ y.fst.length), HIs [HObj.box Md.rw ty72 [SV.val (Go.Value.float Go.FloatKind.f64 (0 : Nat)), SV.val (Go.Value.float
  Go.FloatKind.f64 (0 : Nat)), SV.val (Go.Value.float Go.FloatKind.f64 (0 : Nat))], HObj.row Md.rw ty98 (K.flt Go.FloatKind.f64) (y.fst.set (IntKind.i64.wrap ((0 : Int) + (1 :
  Int))).toNat (canonR (Go.Op.negFloat Go.FloatKind.f64 ([(4607182418800017408 : Nat), s, t].getD (IntKind.i64.wrap ((0 : Int) + (1 : Int))).toNat (0 : Nat)))).fst)] [HObj.box Md.rw
  ty72 [SV.val (Go.Value.float Go.FloatKind.f64 (0 : Nat)), SV.val (Go.Value.float Go.FloatKind.f64 (0 : Nat)), SV.val (Go.Value.float Go.FloatKind.f64 (0 : Nat))], HObj.row Md.rw
  ty98 (K.flt Go.FloatKind.f64) (y.fst.set (IntKind.i64.wrap ((0 : Int) + (1 : Int))).toNat (canonR (Go.Op.negFloat Go.FloatKind.f64 ([(4607182418800017408 : Nat), s, t].getD
  (IntKind.i64.wrap ((0 : Int) + (1 : Int))).toNat (0 : Nat)))).fst)] ∧ post_5 () (y.fst.set (IntKind.i64.wrap ((0 : Int) + (1 : Int))).toNat (canonR (Go.Op.negFloat
  Go.FloatKind.f64 ([(4607182418800017408 : Nat), s, t].getD (IntKind.i64.wrap ((0 : Int) + (1 : Int))).toNat (0 : Nat)))).fst, ())) (HIs [HObj.box Md.rw ty72 [SV.val
  (Go.Value.float Go.FloatKind.f64 (0 : Nat)), SV.val (Go.Value.float Go.FloatKind.f64 (0 : Nat)), SV.val (Go.Value.float Go.FloatKind.f64 (0 : Nat))], HObj.row Md.rw ty98 (K.flt
  Go.FloatKind.f64) y.fst] [HObj.box Md.rw ty72 [SV.val (Go.Value.float Go.FloatKind.f64 (0 : Nat)), SV.val (Go.Value.float Go.FloatKind.f64 (0 : Nat)), SV.val (Go.Value.float
  Go.FloatKind.f64 (0 : Nat))], HObj.row Md.rw ty98 (K.flt Go.FloatKind.f64) y.fst] ∧ post_5 () (y.fst, ())))) ∧ ∀ (x : Unit) (y : List Nat × Unit), post_5 x y → ∃ (post_6 : Unit →
  List Nat × Unit → Prop), (∃ (h : (0 : Int) ≤ IntKind.i64.wrap (IntKind.i64.wrap ((0 : Int) + (1 : Int)) + (1 : Int)) ∧ IntKind.i64.wrap (IntKind.i64.wrap ((0 : Int) + (1 : Int)) +
  (1 : Int)) < (↑(3 : Nat) : Int)), ∃ (h : (0 : Int) ≤ f ∧ f < (↑(6 : Nat) : Int)), ∃ (h : (0 : Int) ≤ IntKind.i64.wrap (IntKind.i64.wrap ((0 : Int) + (1 : Int)) + (1 : Int)) ∧
  IntKind.i64.wrap (IntKind.i64.wrap ((0 : Int) + (1 : Int)) + (1 : Int)) < (↑(3 : Nat) : Int)), ∃ (h : (0 : Int) ≤ IntKind.i64.wrap ((0 : Int) + (1 : Int)) ∧ IntKind.i64.wrap ((0 :
  Int) + (1 : Int)) < (↑(3 : Nat) : Int)), Br (List.getD (List.getD (framesL.getD f.toNat (K.arr (3 : Nat) (K.arr (3 : Nat) (K.int IntKind.i64))).dflt) (IntKind.i64.wrap
  (IntKind.i64.wrap ((0 : Int) + (1 : Int)) + (1 : Int))).toNat (K.arr (3 : Nat) (K.int IntKind.i64)).dflt) (IntKind.i64.wrap ((0 : Int) + (1 : Int))).toNat (0 : Int) == (1 : Int))
  (∃ (h : True), ∃ (h : (0 : Int) ≤ IntKind.i64.wrap ((0 : Int) + (1 : Int)) ∧ IntKind.i64.wrap ((0 : Int) + (1 : Int)) < (↑(3 : Nat) : Int) ∧ (3 : Nat) ≤ y.fst.length), HIs
  [HObj.box Md.rw ty72 [SV.val (Go.Value.float Go.FloatKind.f64 (0 : Nat)), SV.val (Go.Value.float Go.FloatKind.f64 (0 : Nat)), SV.val (Go.Value.float Go.FloatKind.f64 (0 : Nat))],
  HObj.row Md.rw ty98 (K.flt Go.FloatKind.f64) (y.fst.set (IntKind.i64.wrap ((0 : Int) + (1 : Int))).toNat (canonR ([(4607182418800017408 : Nat), s, t].getD (IntKind.i64.wrap
  (IntKind.i64.wrap ((0 : Int) + (1 : Int)) + (1 : Int))).toNat (0 : Nat))).fst)] [HObj.box Md.rw ty72 [SV.val (Go.Value.float Go.FloatKind.f64 (0 : Nat)), SV.val (Go.Value.float
  Go.FloatKind.f64 (0 : Nat)), SV.val (Go.Value.float Go.FloatKind.f64 (0 : Nat))], HObj.row Md.rw ty98 (K.flt Go.FloatKind.f64) (y.fst.set (IntKind.i64.wrap ((0 : Int) + (1 :
  Int))).toNat (canonR ([(4607182418800017408 : Nat), s, t].getD (IntKind.i64.wrap (IntKind.i64.wrap ((0 : Int) + (1 : Int)) + (1 : Int))).toNat (0 : Nat))).fst)] ∧ post_6 ()
  (y.fst.set (IntKind.i64.wrap ((0 : Int) + (1 : Int))).toNat (canonR ([(4607182418800017408 : Nat), s, t].getD (IntKind.i64.wrap (IntKind.i64.wrap ((0 : Int) + (1 : Int)) + (1 :
  Int))).toNat (0 : Nat))).fst, ())) (Br (List.getD (List.getD (framesL.getD f.toNat (K.arr (3 : Nat) (K.arr (3 : Nat) (K.int IntKind.i64))).dflt) (IntKind.i64.wrap
  (IntKind.i64.wrap ((0 : Int) + (1 : Int)) + (1 : Int))).toNat (K.arr (3 : Nat) (K.int IntKind.i64)).dflt) (IntKind.i64.wrap ((0 : Int) + (1 : Int))).toNat (0 : Int) == (-1 : Int))
  (∃ (h : True), ∃ (h : (0 : Int) ≤ IntKind.i64.wrap ((0 : Int) + (1 : Int)) ∧ IntKind.i64.wrap ((0 : Int) + (1 : Int)) < (↑(3 : Nat) : Int) ∧ (3 : Nat) ≤ y.fst.length), HIs
  [HObj.box Md.rw ty72 [SV.val (Go.Value.float Go.FloatKind.f64 (0 : Nat)), SV.val (Go.Value.float Go.FloatKind.f64 (0 : Nat)), SV.val (Go.Value.float Go.FloatKind.f64 (0 : Nat))],
  HObj.row Md.rw ty98 (K.flt Go.FloatKind.f64) (y.fst.set (IntKind.i64.wrap ((0 : Int) + (1 : Int))).toNat (canonR (Go.Op.negFloat Go.FloatKind.f64 ([(4607182418800017408 : Nat), s,
  t].getD (IntKind.i64.wrap (IntKind.i64.wrap ((0 : Int) + (1 : Int)) + (1 : Int))).toNat (0 : Nat)))).fst)] [HObj.box Md.rw ty72 [SV.val (Go.Value.float Go.FloatKind.f64 (0 :
  Nat)), SV.val (Go.Value.float Go.FloatKind.f64 (0 : Nat)), SV.val (Go.Value.float Go.FloatKind.f64 (0 : Nat))], HObj.row Md.rw ty98 (K.flt Go.FloatKind.f64) (y.fst.set
  (IntKind.i64.wrap ((0 : Int) + (1 : Int))).toNat (canonR (Go.Op.negFloat Go.FloatKind.f64 ([(4607182418800017408 : Nat), s, t].getD (IntKind.i64.wrap (IntKind.i64.wrap ((0 : Int)
  + (1 : Int)) + (1 : Int))).toNat (0 : Nat)))).fst)] ∧ post_6 () (y.fst.set (IntKind.i64.wrap ((0 : Int) + (1 : Int))).toNat (canonR (Go.Op.negFloat Go.FloatKind.f64
  ([(4607182418800017408 : Nat), s, t].getD (IntKind.i64.wrap (IntKind.i64.wrap ((0 : Int) + (1 : Int)) + (1 : Int))).toNat (0 : Nat)))).fst, ())) (HIs [HObj.box Md.rw ty72 [SV.val
  (Go.Value.float Go.FloatKind.f64 (0 : Nat)), SV.val (Go.Value.float Go.FloatKind.f64 (0 : Nat)), SV.val (Go.Value.float Go.FloatKind.f64 (0 : Nat))], HObj.row Md.rw ty98 (K.flt
  Go.FloatKind.f64) y.fst] [HObj.box Md.rw ty72 [SV.val (Go.Value.float Go.FloatKind.f64 (0 : Nat)), SV.val (Go.Value.float Go.FloatKind.f64 (0 : Nat)), SV.val (Go.Value.float
  Go.FloatKind.f64 (0 : Nat))], HObj.row Md.rw ty98 (K.flt Go.FloatKind.f64) y.fst] ∧ post_6 () (y.fst, ())))) ∧ ∀ (x : Unit) (y : List Nat × Unit), post_6 x y → ∃ (post_7 : Unit →
  List Nat × Unit → Prop), (∃ (h : (0 : Int) ≤ (0 : Int) ∧ (0 : Int) < (↑(3 : Nat) : Int)), ∃ (h : (0 : Int) ≤ f ∧ f < (↑(6 : Nat) : Int)), ∃ (h : (0 : Int) ≤ (0 : Int) ∧ (0 : Int)
  < (↑(3 : Nat) : Int)), ∃ (h : (0 : Int) ≤ IntKind.i64.wrap (IntKind.i64.wrap ((0 : Int) + (1 : Int)) + (1 : Int)) ∧ IntKind.i64.wrap (IntKind.i64.wrap ((0 : Int) + (1 : Int)) + (1
  : Int)) < (↑(3 : Nat) : Int)), Br (List.getD (List.getD (framesL.getD f.toNat (K.arr (3 : Nat) (K.arr (3 : Nat) (K.int IntKind.i64))).dflt) (Int.toNat (0 : Int)) (K.arr (3 : Nat)
  (K.int IntKind.i64)).dflt) (IntKind.i64.wrap (IntKind.i64.wrap ((0 : Int) + (1 : Int)) + (1 : Int))).toNat (0 : Int) == (1 : Int)) (∃ (h : True), ∃ (h : (0 : Int) ≤
  IntKind.i64.wrap (IntKind.i64.wrap ((0 : Int) + (1 : Int)) + (1 : Int)) ∧ IntKind.i64.wrap (IntKind.i64.wrap ((0 : Int) + (1 : Int)) + (1 : Int)) < (↑(3 : Nat) : Int) ∧ (3 : Nat)
  ≤ y.fst.length), HIs [HObj.box Md.rw ty72 [SV.val (Go.Value.float Go.FloatKind.f64 (0 : Nat)), SV.val (Go.Value.float Go.FloatKind.f64 (0 : Nat)), SV.val (Go.Value.float
  Go.FloatKind.f64 (0 : Nat))], HObj.row Md.rw ty98 (K.flt Go.FloatKind.f64) (y.fst.set (IntKind.i64.wrap (IntKind.i64.wrap ((0 : Int) + (1 : Int)) + (1 : Int))).toNat (canonR
  ([(4607182418800017408 : Nat), s, t].getD (Int.toNat (0 : Int)) (0 : Nat))).fst)] [HObj.box Md.rw ty72 [SV.val (Go.Value.float Go.FloatKind.f64 (0 : Nat)), SV.val (Go.Value.float
  Go.FloatKind.f64 (0 : Nat)), SV.val (Go.Value.float Go.FloatKind.f64 (0 : Nat))], HObj.row Md.rw ty98 (K.flt Go.FloatKind.f64) (y.fst.set (IntKind.i64.wrap (IntKind.i64.wrap ((0 :
  Int) + (1 : Int)) + (1 : Int))).toNat (canonR ([(4607182418800017408 : Nat), s, t].getD (Int.toNat (0 : Int)) (0 : Nat))).fst)] ∧ post_7 () (y.fst.set (IntKind.i64.wrap
  (IntKind.i64.wrap ((0 : Int) + (1 : Int)) + (1 : Int))).toNat (canonR ([(4607182418800017408 : Nat), s, t].getD (Int.toNat (0 : Int)) (0 : Nat))).fst, ())) (Br (List.getD
  (List.getD (framesL.getD f.toNat (K.arr (3 : Nat) (K.arr (3 : Nat) (K.int IntKind.i64))).dflt) (Int.toNat (0 : Int)) (K.arr (3 : Nat) (K.int IntKind.i64)).dflt) (IntKind.i64.wrap
  (IntKind.i64.wrap ((0 : Int) + (1 : Int)) + (1 : Int))).toNat (0 : Int) == (-1 : Int)) (∃ (h : True), ∃ (h : (0 : Int) ≤ IntKind.i64.wrap (IntKind.i64.wrap ((0 : Int) + (1 : Int))
  + (1 : Int)) ∧ IntKind.i64.wrap (IntKind.i64.wrap ((0 : Int) + (1 : Int)) + (1 : Int)) < (↑(3 : Nat) : Int) ∧ (3 : Nat) ≤ y.fst.length), HIs [HObj.box Md.rw ty72 [SV.val
  (Go.Value.float Go.FloatKind.f64 (0 : Nat)), SV.val (Go.Value.float Go.FloatKind.f64 (0 : Nat)), SV.val (Go.Value.float Go.FloatKind.f64 (0 : Nat))], HObj.row Md.rw ty98 (K.flt
  Go.FloatKind.f64) (y.fst.set (IntKind.i64.wrap (IntKind.i64.wrap ((0 : Int) + (1 : Int)) + (1 : Int))).toNat (canonR (Go.Op.negFloat Go.FloatKind.f64 ([(4607182418800017408 :
  Nat), s, t].getD (Int.toNat (0 : Int)) (0 : Nat)))).fst)] [HObj.box Md.rw ty72 [SV.val (Go.Value.float Go.FloatKind.f64 (0 : Nat)), SV.val (Go.Value.float Go.FloatKind.f64 (0 :
  Nat)), SV.val (Go.Value.float Go.FloatKind.f64 (0 : Nat))], HObj.row Md.rw ty98 (K.flt Go.FloatKind.f64) (y.fst.set (IntKind.i64.wrap (IntKind.i64.wrap ((0 : Int) + (1 : Int)) +
  (1 : Int))).toNat (canonR (Go.Op.negFloat Go.FloatKind.f64 ([(4607182418800017408 : Nat), s, t].getD (Int.toNat (0 : Int)) (0 : Nat)))).fst)] ∧ post_7 () (y.fst.set
  (IntKind.i64.wrap (IntKind.i64.wrap ((0 : Int) + (1 : Int)) + (1 : Int))).toNat (canonR (Go.Op.negFloat Go.FloatKind.f64 ([(4607182418800017408 : Nat), s, t].getD (Int.toNat (0 :
  Int)) (0 : Nat)))).fst, ())) (HIs [HObj.box Md.rw ty72 [SV.val (Go.Value.float Go.FloatKind.f64 (0 : Nat)), SV.val (Go.Value.float Go.FloatKind.f64 (0 : Nat)), SV.val
  (Go.Value.float Go.FloatKind.f64 (0 : Nat))], HObj.row Md.rw ty98 (K.flt Go.FloatKind.f64) y.fst] [HObj.box Md.rw ty72 [SV.val (Go.Value.float Go.FloatKind.f64 (0 : Nat)), SV.val
  (Go.Value.float Go.FloatKind.f64 (0 : Nat)), SV.val (Go.Value.float Go.FloatKind.f64 (0 : Nat))], HObj.row Md.rw ty98 (K.flt Go.FloatKind.f64) y.fst] ∧ post_7 () (y.fst, ())))) ∧
  ∀ (x : Unit) (y : List Nat × Unit), post_7 x y → ∃ (post_8 : Unit → List Nat × Unit → Prop), (∃ (h : (0 : Int) ≤ IntKind.i64.wrap ((0 : Int) + (1 : Int)) ∧ IntKind.i64.wrap ((0 :
  Int) + (1 : Int)) < (↑(3 : Nat) : Int)), ∃ (h : (0 : Int) ≤ f ∧ f < (↑(6 : Nat) : Int)), ∃ (h : (0 : Int) ≤ IntKind.i64.wrap ((0 : Int) + (1 : Int)) ∧ IntKind.i64.wrap ((0 : Int)
  + (1 : Int)) < (↑(3 : Nat) : Int)), ∃ (h : (0 : Int) ≤ IntKind.i64.wrap (IntKind.i64.wrap ((0 : Int) + (1 : Int)) + (1 : Int)) ∧ IntKind.i64.wrap (IntKind.i64.wrap ((0 : Int) + (1
  : Int)) + (1 : Int)) < (↑(3 : Nat) : Int)), Br (List.getD (List.getD (framesL.getD f.toNat (K.arr (3 : Nat) (K.arr (3 : Nat) (K.int IntKind.i64))).dflt) (IntKind.i64.wrap ((0 :
  Int) + (1 : Int))).toNat (K.arr (3 : Nat) (K.int IntKind.i64)).dflt) (IntKind.i64.wrap (IntKind.i64.wrap ((0 : Int) + (1 : Int)) + (1 : Int))).toNat (0 : Int) == (1 : Int)) (∃ (h
  : True), ∃ (h : (0 : Int) ≤ IntKind.i64.wrap (IntKind.i64.wrap ((0 : Int) + (1 : Int)) + (1 : Int)) ∧ IntKind.i64.wrap (IntKind.i64.wrap ((0 : Int) + (1 : Int)) + (1 : Int)) <
  (↑(3 : Nat) : Int) ∧ (3 : Nat) ≤ y.fst.length), HIs [HObj.box Md.rw ty72 [SV.val (Go.Value.float Go.FloatKind.f64 (0 : Nat)), SV.val (Go.Value.float Go.FloatKind.f64 (0 : Nat)),
  SV.val (Go.Value.float Go.FloatKind.f64 (0 : Nat))], HObj.row Md.rw ty98 (K.flt Go.FloatKind.f64) (y.fst.set (IntKind.i64.wrap (IntKind.i64.wrap ((0 : Int) + (1 : Int)) + (1 :
  Int))).toNat (canonR ([(4607182418800017408 : Nat), s, t].getD (IntKind.i64.wrap ((0 : Int) + (1 : Int))).toNat (0 : Nat))).fst)] [HObj.box Md.rw ty72 [SV.val (Go.Value.float
  Go.FloatKind.f64 (0 : Nat)), SV.val (Go.Value.float Go.FloatKind.f64 (0 : Nat)), SV.val (Go.Value.float Go.FloatKind.f64 (0 : Nat))], HObj.row Md.rw ty98 (K.flt Go.FloatKind.f64)
  (y.fst.set (IntKind.i64.wrap (IntKind.i64.wrap ((0 : Int) + (1 : Int)) + (1 : Int))).toNat (canonR ([(4607182418800017408 : Nat), s, t].getD (IntKind.i64.wrap ((0 : Int) + (1 :
  Int))).toNat (0 : Nat))).fst)] ∧ post_8 () (y.fst.set (IntKind.i64.wrap (IntKind.i64.wrap ((0 : Int) + (1 : Int)) + (1 : Int))).toNat (canonR ([(4607182418800017408 : Nat), s,
  t].getD (IntKind.i64.wrap ((0 : Int) + (1 : Int))).toNat (0 : Nat))).fst, ())) (Br (List.getD (List.getD (framesL.getD f.toNat (K.arr (3 : Nat) (K.arr (3 : Nat) (K.int
  IntKind.i64))).dflt) (IntKind.i64.wrap ((0 : Int) + (1 : Int))).toNat (K.arr (3 : Nat) (K.int IntKind.i64)).dflt) (IntKind.i64.wrap (IntKind.i64.wrap ((0 : Int) + (1 : Int)) + (1
  : Int))).toNat (0 : Int) == (-1 : Int)) (∃ (h : True), ∃ (h : (0 : Int) ≤ IntKind.i64.wrap (IntKind.i64.wrap ((0 : Int) + (1 : Int)) + (1 : Int)) ∧ IntKind.i64.wrap
  (IntKind.i64.wrap ((0 : Int) + (1 : Int)) + (1 : Int)) < (↑(3 : Nat) : Int) ∧ (3 : Nat) ≤ y.fst.length), HIs [HObj.box Md.rw ty72 [SV.val (Go.Value.float Go.FloatKind.f64 (0 :
  Nat)), SV.val (Go.Value.float Go.FloatKind.f64 (0 : Nat)), SV.val (Go.Value.float Go.FloatKind.f64 (0 : Nat))], HObj.row Md.rw ty98 (K.flt Go.FloatKind.f64) (y.fst.set
  (IntKind.i64.wrap (IntKind.i64.wrap ((0 : Int) + (1 : Int)) + (1 : Int))).toNat (canonR (Go.Op.negFloat Go.FloatKind.f64 ([(4607182418800017408 : Nat), s, t].getD
  (IntKind.i64.wrap ((0 : Int) + (1 : Int))).toNat (0 : Nat)))).fst)] [HObj.box Md.rw ty72 [SV.val (Go.Value.float Go.FloatKind.f64 (0 : Nat)), SV.val (Go.Value.float
  Go.FloatKind.f64 (0 : Nat)), SV.val (Go.Value.float Go.FloatKind.f64 (0 : Nat))], HObj.row Md.rw ty98 (K.flt Go.FloatKind.f64) (y.fst.set (IntKind.i64.wrap (IntKind.i64.wrap ((0 :
  Int) + (1 : Int)) + (1 : Int))).toNat (canonR (Go.Op.negFloat Go.FloatKind.f64 ([(4607182418800017408 : Nat), s, t].getD (IntKind.i64.wrap ((0 : Int) + (1 : Int))).toNat (0 :
  Nat)))).fst)] ∧ post_8 () (y.fst.set (IntKind.i64.wrap (IntKind.i64.wrap ((0 : Int) + (1 : Int)) + (1 : Int))).toNat (canonR (Go.Op.negFloat Go.FloatKind.f64
  ([(4607182418800017408 : Nat), s, t].getD (IntKind.i64.wrap ((0 : Int) + (1 : Int))).toNat (0 : Nat)))).fst, ())) (HIs [HObj.box Md.rw ty72 [SV.val (Go.Value.float
  Go.FloatKind.f64 (0 : Nat)), SV.val (Go.Value.float Go.FloatKind.f64 (0 : Nat)), SV.val (Go.Value.float Go.FloatKind.f64 (0 : Nat))], HObj.row Md.rw ty98 (K.flt Go.FloatKind.f64)
  y.fst] [HObj.box Md.rw ty72 [SV.val (Go.Value.float Go.FloatKind.f64 (0 : Nat)), SV.val (Go.Value.float Go.FloatKind.f64 (0 : Nat)), SV.val (Go.Value.float Go.FloatKind.f64 (0 :
  Nat))], HObj.row Md.rw ty98 (K.flt Go.FloatKind.f64) y.fst] ∧ post_8 () (y.fst, ())))) ∧ ∀ (x : Unit) (y : List Nat × Unit), post_8 x y → ∃ (post_9 : Unit → List Nat × Unit →
  Prop), (∃ (h : (0 : Int) ≤ IntKind.i64.wrap (IntKind.i64.wrap ((0 : Int) + (1 : Int)) + (1 : Int)) ∧ IntKind.i64.wrap (IntKind.i64.wrap ((0 : Int) + (1 : Int)) + (1 : Int)) < (↑(3
  : Nat) : Int)), ∃ (h : (0 : Int) ≤ f ∧ f < (↑(6 : Nat) : Int)), ∃ (h : (0 : Int) ≤ IntKind.i64.wrap (IntKind.i64.wrap ((0 : Int) + (1 : Int)) + (1 : Int)) ∧ IntKind.i64.wrap
  (IntKind.i64.wrap ((0 : Int) + (1 : Int)) + (1 : Int)) < (↑(3 : Nat) : Int)), ∃ (h : (0 : Int) ≤ IntKind.i64.wrap (IntKind.i64.wrap ((0 : Int) + (1 : Int)) + (1 : Int)) ∧
  IntKind.i64.wrap (IntKind.i64.wrap ((0 : Int) + (1 : Int)) + (1 : Int)) < (↑(3 : Nat) : Int)), Br (List.getD (List.getD (framesL.getD f.toNat (K.arr (3 : Nat) (K.arr (3 : Nat)
  (K.int IntKind.i64))).dflt) (IntKind.i64.wrap (IntKind.i64.wrap ((0 : Int) + (1 : Int)) + (1 : Int))).toNat (K.arr (3 : Nat) (K.int IntKind.i64)).dflt) (IntKind.i64.wrap
  (IntKind.i64.wrap ((0 : Int) + (1 : Int)) + (1 : Int))).toNat (0 : Int) == (1 : Int)) (∃ (h : True), ∃ (h : (0 : Int) ≤ IntKind.i64.wrap (IntKind.i64.wrap ((0 : Int) + (1 : Int))
  + (1 : Int)) ∧ IntKind.i64.wrap (IntKind.i64.wrap ((0 : Int) + (1 : Int)) + (1 : Int)) < (↑(3 : Nat) : Int) ∧ (3 : Nat) ≤ y.fst.length), HIs [HObj.box Md.rw ty72 [SV.val
  (Go.Value.float Go.FloatKind.f64 (0 : Nat)), SV.val (Go.Value.float Go.FloatKind.f64 (0 : Nat)), SV.val (Go.Value.float Go.FloatKind.f64 (0 : Nat))], HObj.row Md.rw ty98 (K.flt
  Go.FloatKind.f64) (y.fst.set (IntKind.i64.wrap (IntKind.i64.wrap ((0 : Int) + (1 : Int)) + (1 : Int))).toNat (canonR ([(4607182418800017408 : Nat), s, t].getD (IntKind.i64.wrap
  (IntKind.i64.wrap ((0 : Int) + (1 : Int)) + (1 : Int))).toNat (0 : Nat))).fst)] [HObj.box Md.rw ty72 [SV.val (Go.Value.float Go.FloatKind.f64 (0 : Nat)), SV.val (Go.Value.float
  Go.FloatKind.f64 (0 : Nat)), SV.val (Go.Value.float Go.FloatKind.f64 (0 : Nat))], HObj.row Md.rw ty98 (K.flt Go.FloatKind.f64) (y.fst.set (IntKind.i64.wrap (IntKind.i64.wrap ((0 :
  Int) + (1 : Int)) + (1 : Int))).toNat (canonR ([(4607182418800017408 : Nat), s, t].getD (IntKind.i64.wrap (IntKind.i64.wrap ((0 : Int) + (1 : Int)) + (1 : Int))).toNat (0 :
  Nat))).fst)] ∧ post_9 () (y.fst.set (IntKind.i64.wrap (IntKind.i64.wrap ((0 : Int) + (1 : Int)) + (1 : Int))).toNat (canonR ([(4607182418800017408 : Nat), s, t].getD
  (IntKind.i64.wrap (IntKind.i64.wrap ((0 : Int) + (1 : Int)) + (1 : Int))).toNat (0 : Nat))).fst, ())) (Br (List.getD (List.getD (framesL.getD f.toNat (K.arr (3 : Nat) (K.arr (3 :
  Nat) (K.int IntKind.i64))).dflt) (IntKind.i64.wrap (IntKind.i64.wrap ((0 : Int) + (1 : Int)) + (1 : Int))).toNat (K.arr (3 : Nat) (K.int IntKind.i64)).dflt) (IntKind.i64.wrap
  (IntKind.i64.wrap ((0 : Int) + (1 : Int)) + (1 : Int))).toNat (0 : Int) == (-1 : Int)) (∃ (h : True), ∃ (h : (0 : Int) ≤ IntKind.i64.wrap (IntKind.i64.wrap ((0 : Int) + (1 : Int))
  + (1 : Int)) ∧ IntKind.i64.wrap (IntKind.i64.wrap ((0 : Int) + (1 : Int)) + (1 : Int)) < (↑(3 : Nat) : Int) ∧ (3 : Nat) ≤ y.fst.length), HIs [HObj.box Md.rw ty72 [SV.val
  (Go.Value.float Go.FloatKind.f64 (0 : Nat)), SV.val (Go.Value.float Go.FloatKind.f64 (0 : Nat)), SV.val (Go.Value.float Go.FloatKind.f64 (0 : Nat))], HObj.row Md.rw ty98 (K.flt
  Go.FloatKind.f64) (y.fst.set (IntKind.i64.wrap (IntKind.i64.wrap ((0 : Int) + (1 : Int)) + (1 : Int))).toNat (canonR (Go.Op.negFloat Go.FloatKind.f64 ([(4607182418800017408 :
  Nat), s, t].getD (IntKind.i64.wrap (IntKind.i64.wrap ((0 : Int) + (1 : Int)) + (1 : Int))).toNat (0 : Nat)))).fst)] [HObj.box Md.rw ty72 [SV.val (Go.Value.float Go.FloatKind.f64
  (0 : Nat)), SV.val (Go.Value.float Go.FloatKind.f64 (0 : Nat)), SV.val (Go.Value.float Go.FloatKind.f64 (0 : Nat))], HObj.row Md.rw ty98 (K.flt Go.FloatKind.f64) (y.fst.set
  (IntKind.i64.wrap (IntKind.i64.wrap ((0 : Int) + (1 : Int)) + (1 : Int))).toNat (canonR (Go.Op.negFloat Go.FloatKind.f64 ([(4607182418800017408 : Nat), s, t].getD
  (IntKind.i64.wrap (IntKind.i64.wrap ((0 : Int) + (1 : Int)) + (1 : Int))).toNat (0 : Nat)))).fst)] ∧ post_9 () (y.fst.set (IntKind.i64.wrap (IntKind.i64.wrap ((0 : Int) + (1 :
  Int)) + (1 : Int))).toNat (canonR (Go.Op.negFloat Go.FloatKind.f64 ([(4607182418800017408 : Nat), s, t].getD (IntKind.i64.wrap (IntKind.i64.wrap ((0 : Int) + (1 : Int)) + (1 :
  Int))).toNat (0 : Nat)))).fst, ())) (HIs [HObj.box Md.rw ty72 [SV.val (Go.Value.float Go.FloatKind.f64 (0 : Nat)), SV.val (Go.Value.float Go.FloatKind.f64 (0 : Nat)), SV.val
  (Go.Value.float Go.FloatKind.f64 (0 : Nat))], HObj.row Md.rw ty98 (K.flt Go.FloatKind.f64) y.fst] [HObj.box Md.rw ty72 [SV.val (Go.Value.float Go.FloatKind.f64 (0 : Nat)), SV.val
  (Go.Value.float Go.FloatKind.f64 (0 : Nat)), SV.val (Go.Value.float Go.FloatKind.f64 (0 : Nat))], HObj.row Md.rw ty98 (K.flt Go.FloatKind.f64) y.fst] ∧ post_9 () (y.fst, ())))) ∧
  ∀ (x : Unit) (y : List Nat × Unit), post_9 x y → ∃ (h : (0 : Int) ≤ (0 : Int) ∧ (0 : Int) < (↑(3 : Nat) : Int) ∧ (3 : Nat) ≤ y.fst.length), ∃ (h : (0 : Int) ≤ (1 : Int) ∧ (1 :
  Int) < (↑(3 : Nat) : Int) ∧ (3 : Nat) ≤ y.fst.length), ∃ (h : (0 : Int) ≤ (2 : Int) ∧ (2 : Int) < (↑(3 : Nat) : Int) ∧ (3 : Nat) ≤ y.fst.length), ∃ (h : WV (y.fst.getD (Int.toNat
  (0 : Int)) (0 : Nat), y.fst.getD (Int.toNat (1 : Int)) (0 : Nat), y.fst.getD (Int.toNat (2 : Int)) (0 : Nat))), post (((unitR (y.fst.getD (Int.toNat (0 : Int)) (0 : Nat),
  y.fst.getD (Int.toNat (1 : Int)) (0 : Nat), y.fst.getD (Int.toNat (2 : Int)) (0 : Nat))).fst.fst, (unitR (y.fst.getD (Int.toNat (0 : Int)) (0 : Nat), y.fst.getD (Int.toNat (1 :
  Int)) (0 : Nat), y.fst.getD (Int.toNat (2 : Int)) (0 : Nat))).fst.snd.fst, (unitR (y.fst.getD (Int.toNat (0 : Int)) (0 : Nat), y.fst.getD (Int.toNat (1 : Int)) (0 : Nat),
  y.fst.getD (Int.toNat (2 : Int)) (0 : Nat))).fst.snd.snd), ())
theorem Lx_geom_point (ty0 ty1 : Nat) (f : Int) (s : Nat) (t : Nat) (h : WPoint f s t) : Fx_geom_point ty0 ty1 f s t (fun r => r = pointR f s t) := by
  obtain ⟨f0, f5, hs, ht⟩ := h
  have hfb : 0 ≤ f ∧ f < ((6 : Nat) : Int) := ⟨f0, by omega⟩
  refine ⟨fun _ y => y.1 = [(axisF (frameI f 0 0) (List.getD [(4607182418800017408 : Nat), s, t] (Int.toNat (0 : Int)) (0 : Nat)) 0), 0, 0], ⟨by decide, hfb, by decide, by decide, br_axis (m := (frameI f 0 0)) (v := (List.getD [(4607182418800017408 : Nat), s, t] (Int.toNat (0 : Int)) (0 : Nat))) (c := 0) (P := fun z => [z, 0, 0] = [(axisF (frameI f 0 0) (List.getD [(4607182418800017408 : Nat), s, t] (Int.toNat (0 : Int)) (0 : Nat)) 0), 0, 0]) rfl (fun e => ⟨trivial, ⟨by decide, by decide, Nat.le_refl 3⟩, rfl, e⟩) (fun e => ⟨trivial, ⟨by decide, by decide, Nat.le_refl 3⟩, rfl, e⟩) (fun e => ⟨rfl, e⟩)⟩, ?_⟩
  rintro ⟨⟩ ⟨_, ⟨⟩⟩ rfl
  refine ⟨fun _ y => y.1 = [(axisF (frameI f 1 0) s (axisF (frameI f 0 0) (List.getD [(4607182418800017408 : Nat), s, t] (Int.toNat (0 : Int)) (0 : Nat)) 0)), 0, 0], ⟨by decide, hfb, by decide, by decide, br_axis (m := (frameI f 1 0)) (v := s) (c := (axisF (frameI f 0 0) (List.getD [(4607182418800017408 : Nat), s, t] (Int.toNat (0 : Int)) (0 : Nat)) 0)) (P := fun z => [z, 0, 0] = [(axisF (frameI f 1 0) s (axisF (frameI f 0 0) (List.getD [(4607182418800017408 : Nat), s, t] (Int.toNat (0 : Int)) (0 : Nat)) 0)), 0, 0]) rfl (fun e => ⟨trivial, ⟨by decide, by decide, Nat.le_refl 3⟩, rfl, e⟩) (fun e => ⟨trivial, ⟨by decide, by decide, Nat.le_refl 3⟩, rfl, e⟩) (fun e => ⟨rfl, e⟩)⟩, ?_⟩
  rintro ⟨⟩ ⟨_, ⟨⟩⟩ rfl
  refine ⟨fun _ y => y.1 = [(axisF (frameI f 2 0) t (axisF (frameI f 1 0) s (axisF (frameI f 0 0) (List.getD [(4607182418800017408 : Nat), s, t] (Int.toNat (0 : Int)) (0 : Nat)) 0))), 0, 0], ⟨by decide, hfb, by decide, by decide, br_axis (m := (frameI f 2 0)) (v := t) (c := (axisF (frameI f 1 0) s (axisF (frameI f 0 0) (List.getD [(4607182418800017408 : Nat), s, t] (Int.toNat (0 : Int)) (0 : Nat)) 0))) (P := fun z => [z, 0, 0] = [(axisF (frameI f 2 0) t (axisF (frameI f 1 0) s (axisF (frameI f 0 0) (List.getD [(4607182418800017408 : Nat), s, t] (Int.toNat (0 : Int)) (0 : Nat)) 0))), 0, 0]) rfl (fun e => ⟨trivial, ⟨by decide, by decide, Nat.le_refl 3⟩, rfl, e⟩) (fun e => ⟨trivial, ⟨by decide, by decide, Nat.le_refl 3⟩, rfl, e⟩) (fun e => ⟨rfl, e⟩)⟩, ?_⟩
  rintro ⟨⟩ ⟨_, ⟨⟩⟩ rfl
  refine ⟨fun _ y => y.1 = [(axisF (frameI f 2 0) t (axisF (frameI f 1 0) s (axisF (frameI f 0 0) (List.getD [(4607182418800017408 : Nat), s, t] (Int.toNat (0 : Int)) (0 : Nat)) 0))), (axisF (frameI f 0 1) (List.getD [(4607182418800017408 : Nat), s, t] (Int.toNat (0 : Int)) (0 : Nat)) 0), 0], ⟨by decide, hfb, by decide, by decide, br_axis (m := (frameI f 0 1)) (v := (List.getD [(4607182418800017408 : Nat), s, t] (Int.toNat (0 : Int)) (0 : Nat))) (c := 0) (P := fun z => [(axisF (frameI f 2 0) t (axisF (frameI f 1 0) s (axisF (frameI f 0 0) (List.getD [(4607182418800017408 : Nat), s, t] (Int.toNat (0 : Int)) (0 : Nat)) 0))), z, 0] = [(axisF (frameI f 2 0) t (axisF (frameI f 1 0) s (axisF (frameI f 0 0) (List.getD [(4607182418800017408 : Nat), s, t] (Int.toNat (0 : Int)) (0 : Nat)) 0))), (axisF (frameI f 0 1) (List.getD [(4607182418800017408 : Nat), s, t] (Int.toNat (0 : Int)) (0 : Nat)) 0), 0]) rfl (fun e => ⟨trivial, ⟨by decide, by decide, Nat.le_refl 3⟩, rfl, e⟩) (fun e => ⟨trivial, ⟨by decide, by decide, Nat.le_refl 3⟩, rfl, e⟩) (fun e => ⟨rfl, e⟩)⟩, ?_⟩
  rintro ⟨⟩ ⟨_, ⟨⟩⟩ rfl
  refine ⟨fun _ y => y.1 = [(axisF (frameI f 2 0) t (axisF (frameI f 1 0) s (axisF (frameI f 0 0) (List.getD [(4607182418800017408 : Nat), s, t] (Int.toNat (0 : Int)) (0 : Nat)) 0))), (axisF (frameI f 1 1) s (axisF (frameI f 0 1) (List.getD [(4607182418800017408 : Nat), s, t] (Int.toNat (0 : Int)) (0 : Nat)) 0)), 0], ⟨by decide, hfb, by decide, by decide, br_axis (m := (frameI f 1 1)) (v := s) (c := (axisF (frameI f 0 1) (List.getD [(4607182418800017408 : Nat), s, t] (Int.toNat (0 : Int)) (0 : Nat)) 0)) (P := fun z => [(axisF (frameI f 2 0) t (axisF (frameI f 1 0) s (axisF (frameI f 0 0) (List.getD [(4607182418800017408 : Nat), s, t] (Int.toNat (0 : Int)) (0 : Nat)) 0))), z, 0] = [(axisF (frameI f 2 0) t (axisF (frameI f 1 0) s (axisF (frameI f 0 0) (List.getD [(4607182418800017408 : Nat), s, t] (Int.toNat (0 : Int)) (0 : Nat)) 0))), (axisF (frameI f 1 1) s (axisF (frameI f 0 1) (List.getD [(4607182418800017408 : Nat), s, t] (Int.toNat (0 : Int)) (0 : Nat)) 0)), 0]) rfl (fun e => ⟨trivial, ⟨by decide, by decide, Nat.le_refl 3⟩, rfl, e⟩) (fun e => ⟨trivial, ⟨by decide, by decide, Nat.le_refl 3⟩, rfl, e⟩) (fun e => ⟨rfl, e⟩)⟩, ?_⟩
  rintro ⟨⟩ ⟨_, ⟨⟩⟩ rfl
  refine ⟨fun _ y => y.1 = [(axisF (frameI f 2 0) t (axisF (frameI f 1 0) s (axisF (frameI f 0 0) (List.getD [(4607182418800017408 : Nat), s, t] (Int.toNat (0 : Int)) (0 : Nat)) 0))), (axisF (frameI f 2 1) t (axisF (frameI f 1 1) s (axisF (frameI f 0 1) (List.getD [(4607182418800017408 : Nat), s, t] (Int.toNat (0 : Int)) (0 : Nat)) 0))), 0], ⟨by decide, hfb, by decide, by decide, br_axis (m := (frameI f 2 1)) (v := t) (c := (axisF (frameI f 1 1) s (axisF (frameI f 0 1) (List.getD [(4607182418800017408 : Nat), s, t] (Int.toNat (0 : Int)) (0 : Nat)) 0))) (P := fun z => [(axisF (frameI f 2 0) t (axisF (frameI f 1 0) s (axisF (frameI f 0 0) (List.getD [(4607182418800017408 : Nat), s, t] (Int.toNat (0 : Int)) (0 : Nat)) 0))), z, 0] = [(axisF (frameI f 2 0) t (axisF (frameI f 1 0) s (axisF (frameI f 0 0) (List.getD [(4607182418800017408 : Nat), s, t] (Int.toNat (0 : Int)) (0 : Nat)) 0))), (axisF (frameI f 2 1) t (axisF (frameI f 1 1) s (axisF (frameI f 0 1) (List.getD [(4607182418800017408 : Nat), s, t] (Int.toNat (0 : Int)) (0 : Nat)) 0))), 0]) rfl (fun e => ⟨trivial, ⟨by decide, by decide, Nat.le_refl 3⟩, rfl, e⟩) (fun e => ⟨trivial, ⟨by decide, by decide, Nat.le_refl 3⟩, rfl, e⟩) (fun e => ⟨rfl, e⟩)⟩, ?_⟩
  rintro ⟨⟩ ⟨_, ⟨⟩⟩ rfl
  refine ⟨fun _ y => y.1 = [(axisF (frameI f 2 0) t (axisF (frameI f 1 0) s (axisF (frameI f 0 0) (List.getD [(4607182418800017408 : Nat), s, t] (Int.toNat (0 : Int)) (0 : Nat)) 0))), (axisF (frameI f 2 1) t (axisF (frameI f 1 1) s (axisF (frameI f 0 1) (List.getD [(4607182418800017408 : Nat), s, t] (Int.toNat (0 : Int)) (0 : Nat)) 0))), (axisF (frameI f 0 2) (List.getD [(4607182418800017408 : Nat), s, t] (Int.toNat (0 : Int)) (0 : Nat)) 0)], ⟨by decide, hfb, by decide, by decide, br_axis (m := (frameI f 0 2)) (v := (List.getD [(4607182418800017408 : Nat), s, t] (Int.toNat (0 : Int)) (0 : Nat))) (c := 0) (P := fun z => [(axisF (frameI f 2 0) t (axisF (frameI f 1 0) s (axisF (frameI f 0 0) (List.getD [(4607182418800017408 : Nat), s, t] (Int.toNat (0 : Int)) (0 : Nat)) 0))), (axisF (frameI f 2 1) t (axisF (frameI f 1 1) s (axisF (frameI f 0 1) (List.getD [(4607182418800017408 : Nat), s, t] (Int.toNat (0 : Int)) (0 : Nat)) 0))), z] = [(axisF (frameI f 2 0) t (axisF (frameI f 1 0) s (axisF (frameI f 0 0) (List.getD [(4607182418800017408 : Nat), s, t] (Int.toNat (0 : Int)) (0 : Nat)) 0))), (axisF (frameI f 2 1) t (axisF (frameI f 1 1) s (axisF (frameI f 0 1) (List.getD [(4607182418800017408 : Nat), s, t] (Int.toNat (0 : Int)) (0 : Nat)) 0))), (axisF (frameI f 0 2) (List.getD [(4607182418800017408 : Nat), s, t] (Int.toNat (0 : Int)) (0 : Nat)) 0)]) rfl (fun e => ⟨trivial, ⟨by decide, by decide, Nat.le_refl 3⟩, rfl, e⟩) (fun e => ⟨trivial, ⟨by decide, by decide, Nat.le_refl 3⟩, rfl, e⟩) (fun e => ⟨rfl, e⟩)⟩, ?_⟩
  rintro ⟨⟩ ⟨_, ⟨⟩⟩ rfl
  refine ⟨fun _ y => y.1 = [(axisF (frameI f 2 0) t (axisF (frameI f 1 0) s (axisF (frameI f 0 0) (List.getD [(4607182418800017408 : Nat), s, t] (Int.toNat (0 : Int)) (0 : Nat)) 0))), (axisF (frameI f 2 1) t (axisF (frameI f 1 1) s (axisF (frameI f 0 1) (List.getD [(4607182418800017408 : Nat), s, t] (Int.toNat (0 : Int)) (0 : Nat)) 0))), (axisF (frameI f 1 2) s (axisF (frameI f 0 2) (List.getD [(4607182418800017408 : Nat), s, t] (Int.toNat (0 : Int)) (0 : Nat)) 0))], ⟨by decide, hfb, by decide, by decide, br_axis (m := (frameI f 1 2)) (v := s) (c := (axisF (frameI f 0 2) (List.getD [(4607182418800017408 : Nat), s, t] (Int.toNat (0 : Int)) (0 : Nat)) 0)) (P := fun z => [(axisF (frameI f 2 0) t (axisF (frameI f 1 0) s (axisF (frameI f 0 0) (List.getD [(4607182418800017408 : Nat), s, t] (Int.toNat (0 : Int)) (0 : Nat)) 0))), (axisF (frameI f 2 1) t (axisF (frameI f 1 1) s (axisF (frameI f 0 1) (List.getD [(4607182418800017408 : Nat), s, t] (Int.toNat (0 : Int)) (0 : Nat)) 0))), z] = [(axisF (frameI f 2 0) t (axisF (frameI f 1 0) s (axisF (frameI f 0 0) (List.getD [(4607182418800017408 : Nat), s, t] (Int.toNat (0 : Int)) (0 : Nat)) 0))), (axisF (frameI f 2 1) t (axisF (frameI f 1 1) s (axisF (frameI f 0 1) (List.getD [(4607182418800017408 : Nat), s, t] (Int.toNat (0 : Int)) (0 : Nat)) 0))), (axisF (frameI f 1 2) s (axisF (frameI f 0 2) (List.getD [(4607182418800017408 : Nat), s, t] (Int.toNat (0 : Int)) (0 : Nat)) 0))]) rfl (fun e => ⟨trivial, ⟨by decide, by decide, Nat.le_refl 3⟩, rfl, e⟩) (fun e => ⟨trivial, ⟨by decide, by decide, Nat.le_refl 3⟩, rfl, e⟩) (fun e => ⟨rfl, e⟩)⟩, ?_⟩
  rintro ⟨⟩ ⟨_, ⟨⟩⟩ rfl
  refine ⟨fun _ y => y.1 = [(axisF (frameI f 2 0) t (axisF (frameI f 1 0) s (axisF (frameI f 0 0) (List.getD [(4607182418800017408 : Nat), s, t] (Int.toNat (0 : Int)) (0 : Nat)) 0))), (axisF (frameI f 2 1) t (axisF (frameI f 1 1) s (axisF (frameI f 0 1) (List.getD [(4607182418800017408 : Nat), s, t] (Int.toNat (0 : Int)) (0 : Nat)) 0))), (axisF (frameI f 2 2) t (axisF (frameI f 1 2) s (axisF (frameI f 0 2) (List.getD [(4607182418800017408 : Nat), s, t] (Int.toNat (0 : Int)) (0 : Nat)) 0)))], ⟨by decide, hfb, by decide, by decide, br_axis (m := (frameI f 2 2)) (v := t) (c := (axisF (frameI f 1 2) s (axisF (frameI f 0 2) (List.getD [(4607182418800017408 : Nat), s, t] (Int.toNat (0 : Int)) (0 : Nat)) 0))) (P := fun z => [(axisF (frameI f 2 0) t (axisF (frameI f 1 0) s (axisF (frameI f 0 0) (List.getD [(4607182418800017408 : Nat), s, t] (Int.toNat (0 : Int)) (0 : Nat)) 0))), (axisF (frameI f 2 1) t (axisF (frameI f 1 1) s (axisF (frameI f 0 1) (List.getD [(4607182418800017408 : Nat), s, t] (Int.toNat (0 : Int)) (0 : Nat)) 0))), z] = [(axisF (frameI f 2 0) t (axisF (frameI f 1 0) s (axisF (frameI f 0 0) (List.getD [(4607182418800017408 : Nat), s, t] (Int.toNat (0 : Int)) (0 : Nat)) 0))), (axisF (frameI f 2 1) t (axisF (frameI f 1 1) s (axisF (frameI f 0 1) (List.getD [(4607182418800017408 : Nat), s, t] (Int.toNat (0 : Int)) (0 : Nat)) 0))), (axisF (frameI f 2 2) t (axisF (frameI f 1 2) s (axisF (frameI f 0 2) (List.getD [(4607182418800017408 : Nat), s, t] (Int.toNat (0 : Int)) (0 : Nat)) 0)))]) rfl (fun e => ⟨trivial, ⟨by decide, by decide, Nat.le_refl 3⟩, rfl, e⟩) (fun e => ⟨trivial, ⟨by decide, by decide, Nat.le_refl 3⟩, rfl, e⟩) (fun e => ⟨rfl, e⟩)⟩, ?_⟩
  rintro ⟨⟩ ⟨_, ⟨⟩⟩ rfl
  refine ⟨⟨by decide, by decide, Nat.le_refl 3⟩, ⟨by decide, by decide, Nat.le_refl 3⟩, ⟨by decide, by decide, Nat.le_refl 3⟩, ⟨axisP_w f hs ht 0, axisP_w f hs ht 1, axisP_w f hs ht 2⟩, rfl⟩
def Fx_geom_Corner := fun (n f i j : Int) (post : (Nat × Nat × Nat) × Bool × Unit → Prop) => ∃ (h : I64 n), ∀ (a : Bool), a = ((cellsR n).fst == (0 : Int)) → Br a (post (((0 : Nat),
  (0 : Nat), (0 : Nat)), Bool.false, ())) (∀ (a : Bool), a = decide (f < (0 : Int)) → Br a (post (((0 : Nat), (0 : Nat), (0 : Nat)), Bool.false, ())) (∀ (a : Bool), a = decide (f >
  (5 : Int)) → Br a (post (((0 : Nat), (0 : Nat), (0 : Nat)), Bool.false, ())) (∀ (a : Bool), a = decide (i < (0 : Int)) → Br a (post (((0 : Nat), (0 : Nat), (0 : Nat)), Bool.false,
  ())) (∀ (a : Bool), a = decide (i > n) → Br a (post (((0 : Nat), (0 : Nat), (0 : Nat)), Bool.false, ())) (∀ (a : Bool), a = decide (j < (0 : Int)) → Br a (post (((0 : Nat), (0 :
  Nat), (0 : Nat)), Bool.false, ())) (∀ (a : Bool), a = decide (j > n) → Br a (post (((0 : Nat), (0 : Nat), (0 : Nat)), Bool.false, ())) (∃ (h : WRatio (IntKind.i64.wrap
  (IntKind.i64.wrap ((2 : Int) * i) - n)) n), ∃ (h : WRatio (IntKind.i64.wrap (IntKind.i64.wrap ((2 : Int) * j) - n)) n), ∃ (h : WPoint f (ratioR (IntKind.i64.wrap (IntKind.i64.wrap
  ((2 : Int) * i) - n)) n).fst (ratioR (IntKind.i64.wrap (IntKind.i64.wrap ((2 : Int) * j) - n)) n).fst), post (((pointR f (ratioR (IntKind.i64.wrap (IntKind.i64.wrap ((2 : Int) *
  i) - n)) n).fst (ratioR (IntKind.i64.wrap (IntKind.i64.wrap ((2 : Int) * j) - n)) n).fst).fst.fst, (pointR f (ratioR (IntKind.i64.wrap (IntKind.i64.wrap ((2 : Int) * i) - n))
  n).fst (ratioR (IntKind.i64.wrap (IntKind.i64.wrap ((2 : Int) * j) - n)) n).fst).fst.snd.fst, (pointR f (ratioR (IntKind.i64.wrap (IntKind.i64.wrap ((2 : Int) * i) - n)) n).fst
  (ratioR (IntKind.i64.wrap (IntKind.i64.wrap ((2 : Int) * j) - n)) n).fst).fst.snd.snd), Bool.true, ()))))))))
theorem Lx_geom_Corner (n : Int) (f : Int) (i : Int) (j : Int) (h : IIII n f i j) : Fx_geom_Corner  n f i j (fun r => r = cornerR n f i j) := by
  obtain ⟨hn, hf, hi, hj⟩ := h
  have bad : cornerOk n f i j = false → (((0 : Nat), (0 : Nat), (0 : Nat)), false, ()) = cornerR n f i j := by
    intro e; unfold cornerR; rw [if_neg (by rw [e]; decide)]
  refine ⟨hn, ?_⟩
  rintro _ rfl
  refine Br.intro (fun e => ?_) fun e0 => ?_
  · have e : cellsI n = 0 := by have e : (cellsI n == 0) = true := e; simpa using e
    refine bad ?_
    cases hg : goodC n with
    | false => unfold cornerOk; rw [hg]; rfl
    | true => rw [cells_good hg] at e; have := sq_bd (goodC_iff.1 hg).1 (goodC_iff.1 hg).2; omega
  have e0 : ¬ cellsI n = 0 := by have e : (cellsI n == 0) = false := e0; simpa using e
  have hg : goodC n = true := by
    cases hg : goodC n with
    | false => exact absurd (cells_bad hg) e0
    | true => rfl
  obtain ⟨n1, n2⟩ := goodC_iff.1 hg
  have no : ¬ (0 ≤ f ∧ f ≤ 5 ∧ 0 ≤ i ∧ i ≤ n ∧ 0 ≤ j ∧ j ≤ n) → cornerOk n f i j = false := by
    intro q
    rw [Bool.eq_false_iff]
    intro w
    unfold cornerOk at w
    simp only [Bool.and_eq_true, decide_eq_true_eq] at w
    omega
  rintro _ rfl
  refine Br.intro (fun e => bad (no (by have e := of_decide_eq_true e; omega))) fun e1 => ?_
  have e1 := of_decide_eq_false e1
  rintro _ rfl
  refine Br.intro (fun e => bad (no (by have e := of_decide_eq_true e; omega))) fun e2 => ?_
  have e2 := of_decide_eq_false e2
  rintro _ rfl
  refine Br.intro (fun e => bad (no (by have e := of_decide_eq_true e; omega))) fun e3 => ?_
  have e3 := of_decide_eq_false e3
  rintro _ rfl
  refine Br.intro (fun e => bad (no (by have e := of_decide_eq_true e; omega))) fun e4 => ?_
  have e4 := of_decide_eq_false e4
  rintro _ rfl
  refine Br.intro (fun e => bad (no (by have e := of_decide_eq_true e; omega))) fun e5 => ?_
  have e5 := of_decide_eq_false e5
  rintro _ rfl
  refine Br.intro (fun e => bad (no (by have e := of_decide_eq_true e; omega))) fun e6 => ?_
  have e6 := of_decide_eq_false e6
  obtain ⟨w1, w2⟩ := ratio_wrap n1 n2 (i := i) (by omega) (by omega)
  obtain ⟨w3, w4⟩ := ratio_wrap n1 n2 (i := j) (by omega) (by omega)
  rw [w1, w3]
  refine ⟨w2, w4, ⟨by omega, by omega, divQF_w _ _, divQF_w _ _⟩, ?_⟩
  have ok : cornerOk n f i j = true := by
    unfold cornerOk
    rw [hg, decide_eq_true (by omega), decide_eq_true (by omega), decide_eq_true (by omega), decide_eq_true (by omega), decide_eq_true (by omega), decide_eq_true (by omega)]
    rfl
  unfold cornerR; rw [if_pos ok]; rfl
def Fx_geom_corners := fun (n c : Int) (post : List (Nat × Nat × Nat) × Bool × Unit → Prop) => ∃ (h : II n c), Br (!(placeR4 n c).snd.snd.snd.fst) (∃ (h : (List.replicate (4 : Nat)
  ((K.flt Go.FloatKind.f64).pair ((K.flt Go.FloatKind.f64).pair (K.flt Go.FloatKind.f64))).dflt).length = (4 : Nat) ∧ (4 : Nat) = (4 : Nat)), ∃ (h : (4 : Nat) = (4 : Nat)), post
  ([((0 : Nat), (0 : Nat), (0 : Nat)), ((0 : Nat), (0 : Nat), (0 : Nat)), ((0 : Nat), (0 : Nat), (0 : Nat)), ((0 : Nat), (0 : Nat), (0 : Nat))], Bool.false, ())) (∃ (h : (0 : Int) ≤
  (0 : Int) ∧ (0 : Int) < (↑(4 : Nat) : Int)), ∃ (h : (List.replicate (2 : Nat) (0 : Int)).length = (2 : Nat) ∧ List.length ([[(0 : Int), (0 : Int)], [(1 : Int), (0 : Int)], [(1 :
  Int), (1 : Int)], [(0 : Int), (1 : Int)]].getD (Int.toNat (0 : Int)) (K.arr (2 : Nat) (K.int IntKind.i64)).dflt) = (2 : Nat)), ∃ (h : (0 : Int) ≤ (0 : Int) ∧ (0 : Int) < (↑(2 :
  Nat) : Int) ∧ (2 : Nat) ≤ List.length ([[(0 : Int), (0 : Int)], [(1 : Int), (0 : Int)], [(1 : Int), (1 : Int)], [(0 : Int), (1 : Int)]].getD (Int.toNat (0 : Int)) (K.arr (2 : Nat)
  (K.int IntKind.i64)).dflt)), ∃ (h : (0 : Int) ≤ (1 : Int) ∧ (1 : Int) < (↑(2 : Nat) : Int) ∧ (2 : Nat) ≤ List.length ([[(0 : Int), (0 : Int)], [(1 : Int), (0 : Int)], [(1 : Int),
  (1 : Int)], [(0 : Int), (1 : Int)]].getD (Int.toNat (0 : Int)) (K.arr (2 : Nat) (K.int IntKind.i64)).dflt)), ∃ (h : IIII n (placeR4 n c).fst (IntKind.i64.wrap ((placeR4 n
  c).snd.fst + List.getD ([[(0 : Int), (0 : Int)], [(1 : Int), (0 : Int)], [(1 : Int), (1 : Int)], [(0 : Int), (1 : Int)]].getD (Int.toNat (0 : Int)) (K.arr (2 : Nat) (K.int
  IntKind.i64)).dflt) (Int.toNat (0 : Int)) (0 : Int))) (IntKind.i64.wrap ((placeR4 n c).snd.snd.fst + List.getD ([[(0 : Int), (0 : Int)], [(1 : Int), (0 : Int)], [(1 : Int), (1 :
  Int)], [(0 : Int), (1 : Int)]].getD (Int.toNat (0 : Int)) (K.arr (2 : Nat) (K.int IntKind.i64)).dflt) (Int.toNat (1 : Int)) (0 : Int)))), ∃ (h : (0 : Int) ≤ (0 : Int) ∧ (0 : Int)
  < (↑(4 : Nat) : Int) ∧ (4 : Nat) ≤ (List.replicate (4 : Nat) ((K.flt Go.FloatKind.f64).pair ((K.flt Go.FloatKind.f64).pair (K.flt Go.FloatKind.f64))).dflt).length), ∃ (h : (0 :
  Int) ≤ IntKind.i64.wrap ((0 : Int) + (1 : Int)) ∧ IntKind.i64.wrap ((0 : Int) + (1 : Int)) < (↑(4 : Nat) : Int)), ∃ (h : (List.replicate (2 : Nat) (0 : Int)).length = (2 : Nat) ∧
  List.length ([[(0 : Int), (0 : Int)], [(1 : Int), (0 : Int)], [(1 : Int), (1 : Int)], [(0 : Int), (1 : Int)]].getD (IntKind.i64.wrap ((0 : Int) + (1 : Int))).toNat (K.arr (2 :
  Nat) (K.int IntKind.i64)).dflt) = (2 : Nat)), ∃ (h : (0 : Int) ≤ (0 : Int) ∧ (0 : Int) < (↑(2 : Nat) : Int) ∧ (2 : Nat) ≤ List.length ([[(0 : Int), (0 : Int)], [(1 : Int), (0 :
  Int)], [(1 : Int), (1 : Int)], [(0 : Int), (1 : Int)]].getD (IntKind.i64.wrap ((0 : Int) + (1 : Int))).toNat (K.arr (2 : Nat) (K.int IntKind.i64)).dflt)), ∃ (h : (0 : Int) ≤ (1 :
  Int) ∧ (1 : Int) < (↑(2 : Nat) : Int) ∧ (2 : Nat) ≤ List.length ([[(0 : Int), (0 : Int)], [(1 : Int), (0 : Int)], [(1 : Int), (1 : Int)], [(0 : Int), (1 : Int)]].getD
  (IntKind.i64.wrap ((0 : Int) + (1 : Int))).toNat (K.arr (2 : Nat) (K.int IntKind.i64)).dflt)), ∃ (h : IIII n (placeR4 n c).fst (IntKind.i64.wrap ((placeR4 n c).snd.fst + List.getD
  ([[(0 : Int), (0 : Int)], [(1 : Int), (0 : Int)], [(1 : Int), (1 : Int)], [(0 : Int), (1 : Int)]].getD (IntKind.i64.wrap ((0 : Int) + (1 : Int))).toNat (K.arr (2 : Nat) (K.int
  IntKind.i64)).dflt) (Int.toNat (0 : Int)) (0 : Int))) (IntKind.i64.wrap ((placeR4 n c).snd.snd.fst + List.getD ([[(0 : Int), (0 : Int)], [(1 : Int), (0 : Int)], [(1 : Int), (1 :
  Int)], [(0 : Int), (1 : Int)]].getD (IntKind.i64.wrap ((0 : Int) + (1 : Int))).toNat (K.arr (2 : Nat) (K.int IntKind.i64)).dflt) (Int.toNat (1 : Int)) (0 : Int)))), ∃ (h : (0 :
  Int) ≤ IntKind.i64.wrap ((0 : Int) + (1 : Int)) ∧ IntKind.i64.wrap ((0 : Int) + (1 : Int)) < (↑(4 : Nat) : Int) ∧ (4 : Nat) ≤ ((List.replicate (4 : Nat) ((K.flt
  Go.FloatKind.f64).pair ((K.flt Go.FloatKind.f64).pair (K.flt Go.FloatKind.f64))).dflt).set (Int.toNat (0 : Int)) (cornerR n (placeR4 n c).fst (IntKind.i64.wrap ((placeR4 n
  c).snd.fst + List.getD ([[(0 : Int), (0 : Int)], [(1 : Int), (0 : Int)], [(1 : Int), (1 : Int)], [(0 : Int), (1 : Int)]].getD (Int.toNat (0 : Int)) (K.arr (2 : Nat) (K.int
  IntKind.i64)).dflt) (Int.toNat (0 : Int)) (0 : Int))) (IntKind.i64.wrap ((placeR4 n c).snd.snd.fst + List.getD ([[(0 : Int), (0 : Int)], [(1 : Int), (0 : Int)], [(1 : Int), (1 :
  Int)], [(0 : Int), (1 : Int)]].getD (Int.toNat (0 : Int)) (K.arr (2 : Nat) (K.int IntKind.i64)).dflt) (Int.toNat (1 : Int)) (0 : Int)))).fst).length), ∃ (h : (0 : Int) ≤
  IntKind.i64.wrap (IntKind.i64.wrap ((0 : Int) + (1 : Int)) + (1 : Int)) ∧ IntKind.i64.wrap (IntKind.i64.wrap ((0 : Int) + (1 : Int)) + (1 : Int)) < (↑(4 : Nat) : Int)), ∃ (h :
  (List.replicate (2 : Nat) (0 : Int)).length = (2 : Nat) ∧ List.length ([[(0 : Int), (0 : Int)], [(1 : Int), (0 : Int)], [(1 : Int), (1 : Int)], [(0 : Int), (1 : Int)]].getD
  (IntKind.i64.wrap (IntKind.i64.wrap ((0 : Int) + (1 : Int)) + (1 : Int))).toNat (K.arr (2 : Nat) (K.int IntKind.i64)).dflt) = (2 : Nat)), ∃ (h : (0 : Int) ≤ (0 : Int) ∧ (0 : Int)
  < (↑(2 : Nat) : Int) ∧ (2 : Nat) ≤ List.length ([[(0 : Int), (0 : Int)], [(1 : Int), (0 : Int)], [(1 : Int), (1 : Int)], [(0 : Int), (1 : Int)]].getD (IntKind.i64.wrap
  (IntKind.i64.wrap ((0 : Int) + (1 : Int)) + (1 : Int))).toNat (K.arr (2 : Nat) (K.int IntKind.i64)).dflt)), ∃ (h : (0 : Int) ≤ (1 : Int) ∧ (1 : Int) < (↑(2 : Nat) : Int) ∧ (2 :
  Nat) ≤ List.length ([[(0 : Int), (0 : Int)], [(1 : Int), (0 : Int)], [(1 : Int), (1 : Int)], [(0 : Int), (1 : Int)]].getD (IntKind.i64.wrap (IntKind.i64.wrap ((0 : Int) + (1 :
  Int)) + (1 : Int))).toNat (K.arr (2 : Nat) (K.int IntKind.i64)).dflt)), ∃ (h : IIII n (placeR4 n c).fst (IntKind.i64.wrap ((placeR4 n c).snd.fst + List.getD ([[(0 : Int), (0 :
  Int)], [(1 : Int), (0 : Int)], [(1 : Int), (1 : Int)], [(0 : Int), (1 : Int)]].getD (IntKind.i64.wrap (IntKind.i64.wrap ((0 : Int) + (1 : Int)) + (1 : Int))).toNat (K.arr (2 :
  Nat) (K.int IntKind.i64)).dflt) (Int.toNat (0 : Int)) (0 : Int))) (IntKind.i64.wrap ((placeR4 n c).snd.snd.fst + List.getD ([[(0 : Int), (0 : Int)], [(1 : Int), (0 : Int)], [(1 :
  Int), (1 : Int)], [(0 : Int), (1 : Int)]].getD (IntKind.i64.wrap (IntKind.i64.wrap ((0 : Int) + (1 : Int)) + (1 : Int))).toNat (K.arr (2 : Nat) (K.int IntKind.i64)).dflt)
  (Int.toNat (1 : Int)) (0 : Int)))), ∃ (h : (0 : Int) ≤ IntKind.i64.wrap (IntKind.i64.wrap ((0 : Int) + (1 : Int)) + (1 : Int)) ∧ IntKind.i64.wrap (IntKind.i64.wrap ((0 : Int) + (1
  : Int)) + (1 : Int)) < (↑(4 : Nat) : Int) ∧ (4 : Nat) ≤ (((List.replicate (4 : Nat) ((K.flt Go.FloatKind.f64).pair ((K.flt Go.FloatKind.f64).pair (K.flt
  Go.FloatKind.f64))).dflt).set (Int.toNat (0 : Int)) (cornerR n (placeR4 n c).fst (IntKind.i64.wrap ((placeR4 n c).snd.fst + List.getD ([[(0 : Int), (0 : Int)], [(1 : Int), (0 :
  Int)], [(1 : Int), (1 : Int)], [(0 : Int), (1 : Int)]].getD (Int.toNat (0 : Int)) (K.arr (2 : Nat) (K.int IntKind.i64)).dflt) (Int.toNat (0 : Int)) (0 : Int))) (IntKind.i64.wrap
  ((placeR4 n c).snd.snd.fst + List.getD ([[(0 : Int), (0 : Int)], [(1 : Int), (0 : Int)], [(1 : Int), (1 : Int)], [(0 : Int), (1 : Int)]].getD (Int.toNat (0 : Int)) (K.arr (2 :
  Nat) (K.int IntKind.i64)).dflt) (Int.toNat (1 : Int)) (0 : Int)))).fst).set (IntKind.i64.wrap ((0 : Int) + (1 : Int))).toNat (cornerR n (placeR4 n c).fst (IntKind.i64.wrap
  ((placeR4 n c).snd.fst + List.getD ([[(0 : Int), (0 : Int)], [(1 : Int), (0 : Int)], [(1 : Int), (1 : Int)], [(0 : Int), (1 : Int)]].getD (IntKind.i64.wrap ((0 : Int) + (1 :
  Int))).toNat (K.arr (2 : Nat) (K.int IntKind.i64)).dflt) (Int.toNat (0 : Int)) (0 : Int))) (IntKind.i64.wrap ((placeR4 n c).snd.snd.fst + List.getD ([[(0 : Int), (0 : Int)], [(1 :
  Int), (0 : Int)], [(1 : Int), (1 : Int)], [(0 : Int), (1 : Int)]].getD (IntKind.i64.wrap ((0 : Int) + (1 : Int))).toNat (K.arr (2 : Nat) (K.int IntKind.i64)).dflt) (Int.toNat (1 :
  Int)) (0 : Int)))).fst).length), ∃ (h : (0 : Int) ≤ IntKind.i64.wrap (IntKind.i64.wrap (IntKind.i64.wrap ((0 : Int) + (1 : Int)) + (1 : Int)) + (1 : Int)) ∧ IntKind.i64.wrap
  (IntKind.i64.wrap (IntKind.i64.wrap ((0 : Int) + (1 : Int)) + (1 : Int)) + (1 : Int)) < (↑(4 : Nat) : Int)), ∃ (h : (List.replicate (2 : Nat) (0 : Int)).length = (2 : Nat) ∧
  List.length ([[(0 : Int), (0 : Int)], [(1 : Int), (0 : Int)], [(1 : Int), (1 : Int)], [(0 : Int), (1 : Int)]].getD (IntKind.i64.wrap (IntKind.i64.wrap (IntKind.i64.wrap ((0 : Int)
  + (1 : Int)) + (1 : Int)) + (1 : Int))).toNat (K.arr (2 : Nat) (K.int IntKind.i64)).dflt) = (2 : Nat)), ∃ (h : (0 : Int) ≤ (0 : Int) ∧ (0 : Int) < (↑(2 : Nat) : Int) ∧ (2 : Nat) ≤
  List.length ([[(0 : Int), (0 : Int)], [(1 : Int), (0 : Int)], [(1 : Int), (1 : Int)], [(0 : Int), (1 : Int)]].getD (IntKind.i64.wrap (IntKind.i64.wrap (IntKind.i64.wrap ((0 : Int)
  + (1 : Int)) + (1 : Int)) + (1 : Int))).toNat (K.arr (2 : Nat) (K.int IntKind.i64)).dflt)), ∃ (h : (0 : Int) ≤ (1 : Int) ∧ (1 : Int) < (↑(2 : Nat) : Int) ∧ (2 : Nat) ≤ List.length
  ([[(0 : Int), (0 : Int)], [(1 : Int), (0 : Int)], [(1 : Int), (1 : Int)], [(0 : Int), (1 : Int)]].getD (IntKind.i64.wrap (IntKind.i64.wrap (IntKind.i64.wrap ((0 : Int) + (1 :
  Int)) + (1 : Int)) + (1 : Int))).toNat (K.arr (2 : Nat) (K.int IntKind.i64)).dflt)), ∃ (h : IIII n (placeR4 n c).fst (IntKind.i64.wrap ((placeR4 n c).snd.fst + List.getD ([[(0 :
  Int), (0 : Int)], [(1 : Int), (0 : Int)], [(1 : Int), (1 : Int)], [(0 : Int), (1 : Int)]].getD (IntKind.i64.wrap (IntKind.i64.wrap (IntKind.i64.wrap ((0 : Int) + (1 : Int)) + (1 :
  Int)) + (1 : Int))).toNat (K.arr (2 : Nat) (K.int IntKind.i64)).dflt) (Int.toNat (0 : Int)) (0 : Int))) (IntKind.i64.wrap ((placeR4 n c).snd.snd.fst + List.getD ([[(0 : Int), (0 :
  Int)], [(1 : Int), (0 : Int)], [(1 : Int), (1 : Int)], [(0 : Int), (1 : Int)]].getD (IntKind.i64.wrap (IntKind.i64.wrap (IntKind.i64.wrap ((0 : Int) + (1 : Int)) + (1 : Int)) + (1
  : Int))).toNat (K.arr (2 : Nat) (K.int IntKind.i64)).dflt) (Int.toNat (1 : Int)) (0 : Int)))), ∃ (h : (0 : Int) ≤ IntKind.i64.wrap (IntKind.i64.wrap (IntKind.i64.wrap ((0 : Int) +
  (1 : Int)) + (1 : Int)) + (1 : Int)) ∧ IntKind.i64.wrap (IntKind.i64.wrap (IntKind.i64.wrap ((0 : Int) + (1 : Int)) + (1 : Int)) + (1 : Int)) < (↑(4 : Nat) : Int) ∧ (4 : Nat) ≤
  ((((List.replicate (4 : Nat) ((K.flt Go.FloatKind.f64).pair ((K.flt Go.FloatKind.f64).pair (K.flt Go.FloatKind.f64))).dflt).set (Int.toNat (0 : Int)) (cornerR n (placeR4 n c).fst
  (IntKind.i64.wrap ((placeR4 n c).snd.fst + List.getD ([[(0 : Int), (0 : Int)], [(1 : Int), (0 : Int)], [(1 : Int), (1 : Int)], [(0 : Int), (1 : Int)]].getD (Int.toNat (0 : Int))
  (K.arr (2 : Nat) (K.int IntKind.i64)).dflt) (Int.toNat (0 : Int)) (0 : Int))) (IntKind.i64.wrap ((placeR4 n c).snd.snd.fst + List.getD ([[(0 : Int), (0 : Int)], [(1 : Int), (0 :
  Int)], [(1 : Int), (1 : Int)], [(0 : Int), (1 : Int)]].getD (Int.toNat (0 : Int)) (K.arr (2 : Nat) (K.int IntKind.i64)).dflt) (Int.toNat (1 : Int)) (0 : Int)))).fst).set
  (IntKind.i64.wrap ((0 : Int) + (1 : Int))).toNat (cornerR n (placeR4 n c).fst (IntKind.i64.wrap ((placeR4 n c).snd.fst + List.getD ([[(0 : Int), (0 : Int)], [(1 : Int), (0 :
  Int)], [(1 : Int), (1 : Int)], [(0 : Int), (1 : Int)]].getD (IntKind.i64.wrap ((0 : Int) + (1 : Int))).toNat (K.arr (2 : Nat) (K.int IntKind.i64)).dflt) (Int.toNat (0 : Int)) (0 :
  Int))) (IntKind.i64.wrap ((placeR4 n c).snd.snd.fst + List.getD ([[(0 : Int), (0 : Int)], [(1 : Int), (0 : Int)], [(1 : Int), (1 : Int)], [(0 : Int), (1 : Int)]].getD
  (IntKind.i64.wrap ((0 : Int) + (1 : Int))).toNat (K.arr (2 : Nat) (K.int IntKind.i64)).dflt) (Int.toNat (1 : Int)) (0 : Int)))).fst).set (IntKind.i64.wrap (IntKind.i64.wrap ((0 :
  Int) + (1 : Int)) + (1 : Int))).toNat (cornerR n (placeR4 n c).fst (IntKind.i64.wrap ((placeR4 n c).snd.fst + List.getD ([[(0 : Int), (0 : Int)], [(1 : Int), (0 : Int)], [(1 :
  Int), (1 : Int)], [(0 : Int), (1 : Int)]].getD (IntKind.i64.wrap (IntKind.i64.wrap ((0 : Int) + (1 : Int)) + (1 : Int))).toNat (K.arr (2 : Nat) (K.int IntKind.i64)).dflt)
  (Int.toNat (0 : Int)) (0 : Int))) (IntKind.i64.wrap ((placeR4 n c).snd.snd.fst + List.getD ([[(0 : Int), (0 : Int)], [(1 : Int), (0 : Int)], [(1 : Int), (1 : Int)], [(0 : Int), (1
  : Int)]].getD (IntKind.i64.wrap (IntKind.i64.wrap ((0 : Int) + (1 : Int)) + (1 : Int))).toNat (K.arr (2 : Nat) (K.int IntKind.i64)).dflt) (Int.toNat (1 : Int)) (0 :
  Int)))).fst).length), ∃ (h : (((((List.replicate (4 : Nat) ((K.flt Go.FloatKind.f64).pair ((K.flt Go.FloatKind.f64).pair (K.flt Go.FloatKind.f64))).dflt).set (Int.toNat (0 : Int))
  (cornerR n (placeR4 n c).fst (IntKind.i64.wrap ((placeR4 n c).snd.fst + List.getD ([[(0 : Int), (0 : Int)], [(1 : Int), (0 : Int)], [(1 : Int), (1 : Int)], [(0 : Int), (1 :
  Int)]].getD (Int.toNat (0 : Int)) (K.arr (2 : Nat) (K.int IntKind.i64)).dflt) (Int.toNat (0 : Int)) (0 : Int))) (IntKind.i64.wrap ((placeR4 n c).snd.snd.fst + List.getD ([[(0 :
  Int), (0 : Int)], [(1 : Int), (0 : Int)], [(1 : Int), (1 : Int)], [(0 : Int), (1 : Int)]].getD (Int.toNat (0 : Int)) (K.arr (2 : Nat) (K.int IntKind.i64)).dflt) (Int.toNat (1 :
  Int)) (0 : Int)))).fst).set (IntKind.i64.wrap ((0 : Int) + (1 : Int))).toNat (cornerR n (placeR4 n c).fst (IntKind.i64.wrap ((placeR4 n c).snd.fst + List.getD ([[(0 : Int), (0 :
  Int)], [(1 : Int), (0 : Int)], [(1 : Int), (1 : Int)], [(0 : Int), (1 : Int)]].getD (IntKind.i64.wrap ((0 : Int) + (1 : Int))).toNat (K.arr (2 : Nat) (K.int IntKind.i64)).dflt)
  (Int.toNat (0 : Int)) (0 : Int))) (IntKind.i64.wrap ((placeR4 n c).snd.snd.fst + List.getD ([[(0 : Int), (0 : Int)], [(1 : Int), (0 : Int)], [(1 : Int), (1 : Int)], [(0 : Int), (1
  : Int)]].getD (IntKind.i64.wrap ((0 : Int) + (1 : Int))).toNat (K.arr (2 : Nat) (K.int IntKind.i64)).dflt) (Int.toNat (1 : Int)) (0 : Int)))).fst).set (IntKind.i64.wrap
  (IntKind.i64.wrap ((0 : Int) + (1 : Int)) + (1 : Int))).toNat (cornerR n (placeR4 n c).fst (IntKind.i64.wrap ((placeR4 n c).snd.fst + List.getD ([[(0 : Int), (0 : Int)], [(1 :
  Int), (0 : Int)], [(1 : Int), (1 : Int)], [(0 : Int), (1 : Int)]].getD (IntKind.i64.wrap (IntKind.i64.wrap ((0 : Int) + (1 : Int)) + (1 : Int))).toNat (K.arr (2 : Nat) (K.int
  IntKind.i64)).dflt) (Int.toNat (0 : Int)) (0 : Int))) (IntKind.i64.wrap ((placeR4 n c).snd.snd.fst + List.getD ([[(0 : Int), (0 : Int)], [(1 : Int), (0 : Int)], [(1 : Int), (1 :
  Int)], [(0 : Int), (1 : Int)]].getD (IntKind.i64.wrap (IntKind.i64.wrap ((0 : Int) + (1 : Int)) + (1 : Int))).toNat (K.arr (2 : Nat) (K.int IntKind.i64)).dflt) (Int.toNat (1 :
  Int)) (0 : Int)))).fst).set (IntKind.i64.wrap (IntKind.i64.wrap (IntKind.i64.wrap ((0 : Int) + (1 : Int)) + (1 : Int)) + (1 : Int))).toNat (cornerR n (placeR4 n c).fst
  (IntKind.i64.wrap ((placeR4 n c).snd.fst + List.getD ([[(0 : Int), (0 : Int)], [(1 : Int), (0 : Int)], [(1 : Int), (1 : Int)], [(0 : Int), (1 : Int)]].getD (IntKind.i64.wrap
  (IntKind.i64.wrap (IntKind.i64.wrap ((0 : Int) + (1 : Int)) + (1 : Int)) + (1 : Int))).toNat (K.arr (2 : Nat) (K.int IntKind.i64)).dflt) (Int.toNat (0 : Int)) (0 : Int)))
  (IntKind.i64.wrap ((placeR4 n c).snd.snd.fst + List.getD ([[(0 : Int), (0 : Int)], [(1 : Int), (0 : Int)], [(1 : Int), (1 : Int)], [(0 : Int), (1 : Int)]].getD (IntKind.i64.wrap
  (IntKind.i64.wrap (IntKind.i64.wrap ((0 : Int) + (1 : Int)) + (1 : Int)) + (1 : Int))).toNat (K.arr (2 : Nat) (K.int IntKind.i64)).dflt) (Int.toNat (1 : Int)) (0 :
  Int)))).fst).length = (4 : Nat)), ∃ (h : (List.replicate (4 : Nat) ((K.flt Go.FloatKind.f64).pair ((K.flt Go.FloatKind.f64).pair (K.flt Go.FloatKind.f64))).dflt).length = (4 :
  Nat) ∧ (((((List.replicate (4 : Nat) ((K.flt Go.FloatKind.f64).pair ((K.flt Go.FloatKind.f64).pair (K.flt Go.FloatKind.f64))).dflt).set (Int.toNat (0 : Int)) (cornerR n (placeR4 n
  c).fst (IntKind.i64.wrap ((placeR4 n c).snd.fst + List.getD ([[(0 : Int), (0 : Int)], [(1 : Int), (0 : Int)], [(1 : Int), (1 : Int)], [(0 : Int), (1 : Int)]].getD (Int.toNat (0 :
  Int)) (K.arr (2 : Nat) (K.int IntKind.i64)).dflt) (Int.toNat (0 : Int)) (0 : Int))) (IntKind.i64.wrap ((placeR4 n c).snd.snd.fst + List.getD ([[(0 : Int), (0 : Int)], [(1 : Int),
  (0 : Int)], [(1 : Int), (1 : Int)], [(0 : Int), (1 : Int)]].getD (Int.toNat (0 : Int)) (K.arr (2 : Nat) (K.int IntKind.i64)).dflt) (Int.toNat (1 : Int)) (0 : Int)))).fst).set
  (IntKind.i64.wrap ((0 : Int) + (1 : Int))).toNat (cornerR n (placeR4 n c).fst (IntKind.i64.wrap ((placeR4 n c).snd.fst + List.getD ([[(0 : Int), (0 : Int)], [(1 : Int), (0 :
  Int)], [(1 : Int), (1 : Int)], [(0 : Int), (1 : Int)]].getD (IntKind.i64.wrap ((0 : Int) + (1 : Int))).toNat (K.arr (2 : Nat) (K.int IntKind.i64)).dflt) (Int.toNat (0 : Int)) (0 :
  Int))) (IntKind.i64.wrap ((placeR4 n c).snd.snd.fst + List.getD ([[(0 : Int), (0 : Int)], [(1 : Int), (0 : Int)], [(1 : Int), (1 : Int)], [(0 : Int), (1 : Int)]].getD
  (IntKind.i64.wrap ((0 : Int) + (1 : Int))).toNat (K.arr (2 : Nat) (K.int IntKind.i64)).dflt) (Int.toNat (1 : Int)) (0 : Int)))).fst).set (IntKind.i64.wrap (IntKind.i64.wrap ((0 :
  Int) + (1 : Int)) + (1 : Int))).toNat (cornerR n (placeR4 n c).fst (IntKind.i64.wrap ((placeR4 n c).snd.fst + List.getD ([[(0 : Int), (0 : Int)], [(1 : Int), (0 : Int)], [(1 :
  Int), (1 : Int)], [(0 : Int), (1 : Int)]].getD (IntKind.i64.wrap (IntKind.i64.wrap ((0 : Int) + (1 : Int)) + (1 : Int))).toNat (K.arr (2 : Nat) (K.int IntKind.i64)).dflt)
  (Int.toNat (0 : Int)) (0 : Int))) (IntKind.i64.wrap ((placeR4 n c).snd.snd.fst + List.getD ([[(0 : Int), (0 : Int)], [(1 : Int), (0 : Int)], [(1 : Int), (1 : Int)], [(0 : Int), (1
  : Int)]].getD (IntKind.i64.wrap (IntKind.i64.wrap ((0 : Int) + (1 : Int)) + (1 : Int))).toNat (K.arr (2 : Nat) (K.int IntKind.i64)).dflt) (Int.toNat (1 : Int)) (0 :
  Int)))).fst).set (IntKind.i64.wrap (IntKind.i64.wrap (IntKind.i64.wrap ((0 : Int) + (1 : Int)) + (1 : Int)) + (1 : Int))).toNat (cornerR n (placeR4 n c).fst (IntKind.i64.wrap
  ((placeR4 n c).snd.fst + List.getD ([[(0 : Int), (0 : Int)], [(1 : Int), (0 : Int)], [(1 : Int), (1 : Int)], [(0 : Int), (1 : Int)]].getD (IntKind.i64.wrap (IntKind.i64.wrap
  (IntKind.i64.wrap ((0 : Int) + (1 : Int)) + (1 : Int)) + (1 : Int))).toNat (K.arr (2 : Nat) (K.int IntKind.i64)).dflt) (Int.toNat (0 : Int)) (0 : Int))) (IntKind.i64.wrap
  ((placeR4 n c).snd.snd.fst + List.getD ([[(0 : Int), (0 : Int)], [(1 : Int), (0 : Int)], [(1 : Int), (1 : Int)], [(0 : Int), (1 : Int)]].getD (IntKind.i64.wrap (IntKind.i64.wrap
  (IntKind.i64.wrap ((0 : Int) + (1 : Int)) + (1 : Int)) + (1 : Int))).toNat (K.arr (2 : Nat) (K.int IntKind.i64)).dflt) (Int.toNat (1 : Int)) (0 : Int)))).fst).length = (4 : Nat)),
  ∃ (h : (((((List.replicate (4 : Nat) ((K.flt Go.FloatKind.f64).pair ((K.flt Go.FloatKind.f64).pair (K.flt Go.FloatKind.f64))).dflt).set (Int.toNat (0 : Int)) (cornerR n (placeR4 n
  c).fst (IntKind.i64.wrap ((placeR4 n c).snd.fst + List.getD ([[(0 : Int), (0 : Int)], [(1 : Int), (0 : Int)], [(1 : Int), (1 : Int)], [(0 : Int), (1 : Int)]].getD (Int.toNat (0 :
  Int)) (K.arr (2 : Nat) (K.int IntKind.i64)).dflt) (Int.toNat (0 : Int)) (0 : Int))) (IntKind.i64.wrap ((placeR4 n c).snd.snd.fst + List.getD ([[(0 : Int), (0 : Int)], [(1 : Int),
  (0 : Int)], [(1 : Int), (1 : Int)], [(0 : Int), (1 : Int)]].getD (Int.toNat (0 : Int)) (K.arr (2 : Nat) (K.int IntKind.i64)).dflt) (Int.toNat (1 : Int)) (0 : Int)))).fst).set
  (IntKind.i64.wrap ((0 : Int) + (1 : Int))).toNat (cornerR n (placeR4 n c).fst (IntKind.i64.wrap ((placeR4 n c).snd.fst + List.getD ([[(0 : Int), (0 : Int)], [(1 : Int), (0 :
  Int)], [(1 : Int), (1 : Int)], [(0 : Int), (1 : Int)]].getD (IntKind.i64.wrap ((0 : Int) + (1 : Int))).toNat (K.arr (2 : Nat) (K.int IntKind.i64)).dflt) (Int.toNat (0 : Int)) (0 :
  Int))) (IntKind.i64.wrap ((placeR4 n c).snd.snd.fst + List.getD ([[(0 : Int), (0 : Int)], [(1 : Int), (0 : Int)], [(1 : Int), (1 : Int)], [(0 : Int), (1 : Int)]].getD
  (IntKind.i64.wrap ((0 : Int) + (1 : Int))).toNat (K.arr (2 : Nat) (K.int IntKind.i64)).dflt) (Int.toNat (1 : Int)) (0 : Int)))).fst).set (IntKind.i64.wrap (IntKind.i64.wrap ((0 :
  Int) + (1 : Int)) + (1 : Int))).toNat (cornerR n (placeR4 n c).fst (IntKind.i64.wrap ((placeR4 n c).snd.fst + List.getD ([[(0 : Int), (0 : Int)], [(1 : Int), (0 : Int)], [(1 :
  Int), (1 : Int)], [(0 : Int), (1 : Int)]].getD (IntKind.i64.wrap (IntKind.i64.wrap ((0 : Int) + (1 : Int)) + (1 : Int))).toNat (K.arr (2 : Nat) (K.int IntKind.i64)).dflt)
  (Int.toNat (0 : Int)) (0 : Int))) (IntKind.i64.wrap ((placeR4 n c).snd.snd.fst + List.getD ([[(0 : Int), (0 : Int)], [(1 : Int), (0 : Int)], [(1 : Int), (1 : Int)], [(0 : Int), (1
  : Int)]].getD (IntKind.i64.wrap (IntKind.i64.wrap ((0 : Int) + (1 : Int)) + (1 : Int))).toNat (K.arr (2 : Nat) (K.int IntKind.i64)).dflt) (Int.toNat (1 : Int)) (0 :
  Int)))).fst).set (IntKind.i64.wrap (IntKind.i64.wrap (IntKind.i64.wrap ((0 : Int) + (1 : Int)) + (1 : Int)) + (1 : Int))).toNat (cornerR n (placeR4 n c).fst (IntKind.i64.wrap
  ((placeR4 n c).snd.fst + List.getD ([[(0 : Int), (0 : Int)], [(1 : Int), (0 : Int)], [(1 : Int), (1 : Int)], [(0 : Int), (1 : Int)]].getD (IntKind.i64.wrap (IntKind.i64.wrap
  (IntKind.i64.wrap ((0 : Int) + (1 : Int)) + (1 : Int)) + (1 : Int))).toNat (K.arr (2 : Nat) (K.int IntKind.i64)).dflt) (Int.toNat (0 : Int)) (0 : Int))) (IntKind.i64.wrap
  ((placeR4 n c).snd.snd.fst + List.getD ([[(0 : Int), (0 : Int)], [(1 : Int), (0 : Int)], [(1 : Int), (1 : Int)], [(0 : Int), (1 : Int)]].getD (IntKind.i64.wrap (IntKind.i64.wrap
  (IntKind.i64.wrap ((0 : Int) + (1 : Int)) + (1 : Int)) + (1 : Int))).toNat (K.arr (2 : Nat) (K.int IntKind.i64)).dflt) (Int.toNat (1 : Int)) (0 : Int)))).fst).length = (4 : Nat)),
  post (((((List.replicate (4 : Nat) ((K.flt Go.FloatKind.f64).pair ((K.flt Go.FloatKind.f64).pair (K.flt Go.FloatKind.f64))).dflt).set (Int.toNat (0 : Int)) (cornerR n (placeR4 n
  c).fst (IntKind.i64.wrap ((placeR4 n c).snd.fst + List.getD ([[(0 : Int), (0 : Int)], [(1 : Int), (0 : Int)], [(1 : Int), (1 : Int)], [(0 : Int), (1 : Int)]].getD (Int.toNat (0 :
  Int)) (K.arr (2 : Nat) (K.int IntKind.i64)).dflt) (Int.toNat (0 : Int)) (0 : Int))) (IntKind.i64.wrap ((placeR4 n c).snd.snd.fst + List.getD ([[(0 : Int), (0 : Int)], [(1 : Int),
  (0 : Int)], [(1 : Int), (1 : Int)], [(0 : Int), (1 : Int)]].getD (Int.toNat (0 : Int)) (K.arr (2 : Nat) (K.int IntKind.i64)).dflt) (Int.toNat (1 : Int)) (0 : Int)))).fst).set
  (IntKind.i64.wrap ((0 : Int) + (1 : Int))).toNat (cornerR n (placeR4 n c).fst (IntKind.i64.wrap ((placeR4 n c).snd.fst + List.getD ([[(0 : Int), (0 : Int)], [(1 : Int), (0 :
  Int)], [(1 : Int), (1 : Int)], [(0 : Int), (1 : Int)]].getD (IntKind.i64.wrap ((0 : Int) + (1 : Int))).toNat (K.arr (2 : Nat) (K.int IntKind.i64)).dflt) (Int.toNat (0 : Int)) (0 :
  Int))) (IntKind.i64.wrap ((placeR4 n c).snd.snd.fst + List.getD ([[(0 : Int), (0 : Int)], [(1 : Int), (0 : Int)], [(1 : Int), (1 : Int)], [(0 : Int), (1 : Int)]].getD
  (IntKind.i64.wrap ((0 : Int) + (1 : Int))).toNat (K.arr (2 : Nat) (K.int IntKind.i64)).dflt) (Int.toNat (1 : Int)) (0 : Int)))).fst).set (IntKind.i64.wrap (IntKind.i64.wrap ((0 :
  Int) + (1 : Int)) + (1 : Int))).toNat (cornerR n (placeR4 n c).fst (IntKind.i64.wrap ((placeR4 n c).snd.fst + List.getD ([[(0 : Int), (0 : Int)], [(1 : Int), (0 : Int)], [(1 :
  Int), (1 : Int)], [(0 : Int), (1 : Int)]].getD (IntKind.i64.wrap (IntKind.i64.wrap ((0 : Int) + (1 : Int)) + (1 : Int))).toNat (K.arr (2 : Nat) (K.int IntKind.i64)).dflt)
  (Int.toNat (0 : Int)) (0 : Int))) (IntKind.i64.wrap ((placeR4 n c).snd.snd.fst + List.getD ([[(0 : Int), (0 : Int)], [(1 : Int), (0 : Int)], [(1 : Int), (1 : Int)], [(0 : Int), (1
  : Int)]].getD (IntKind.i64.wrap (IntKind.i64.wrap ((0 : Int) + (1 : Int)) + (1 : Int))).toNat (K.arr (2 : Nat) (K.int IntKind.i64)).dflt) (Int.toNat (1 : Int)) (0 :
  Int)))).fst).set (IntKind.i64.wrap (IntKind.i64.wrap (IntKind.i64.wrap ((0 : Int) + (1 : Int)) + (1 : Int)) + (1 : Int))).toNat (cornerR n (placeR4 n c).fst (IntKind.i64.wrap
  ((placeR4 n c).snd.fst + List.getD ([[(0 : Int), (0 : Int)], [(1 : Int), (0 : Int)], [(1 : Int), (1 : Int)], [(0 : Int), (1 : Int)]].getD (IntKind.i64.wrap (IntKind.i64.wrap
  (IntKind.i64.wrap ((0 : Int) + (1 : Int)) + (1 : Int)) + (1 : Int))).toNat (K.arr (2 : Nat) (K.int IntKind.i64)).dflt) (Int.toNat (0 : Int)) (0 : Int))) (IntKind.i64.wrap
  ((placeR4 n c).snd.snd.fst + List.getD ([[(0 : Int), (0 : Int)], [(1 : Int), (0 : Int)], [(1 : Int), (1 : Int)], [(0 : Int), (1 : Int)]].getD (IntKind.i64.wrap (IntKind.i64.wrap
  (IntKind.i64.wrap ((0 : Int) + (1 : Int)) + (1 : Int)) + (1 : Int))).toNat (K.arr (2 : Nat) (K.int IntKind.i64)).dflt) (Int.toNat (1 : Int)) (0 : Int)))).fst, Bool.true, ()))
theorem Lx_geom_corners (n : Int) (c : Int) (h : II n c) : Fx_geom_corners  n c (fun r => r = cornersR n c) := by
  obtain ⟨hn, hc⟩ := h
  refine ⟨⟨hn, hc⟩, Br.intro (fun e => ?_) fun e => ?_⟩
  · refine ⟨⟨by decide, by decide⟩, by decide, ?_⟩
    have ok : placeOk n c = false := by
      cases q : placeOk n c with
      | false => rfl
      | true => unfold placeR4 at e; rw [if_pos q] at e; cases e
    unfold cornersR; rw [if_neg (by rw [ok]; decide)]
  have ok : placeOk n c = true := by
    cases q : placeOk n c with
    | true => rfl
    | false => unfold placeR4 at e; rw [if_neg (by rw [q]; decide)] at e; cases e
  obtain ⟨h1, h2, h3, h4, h5, h6⟩ := place_facts ok
  obtain ⟨r1, r2, r3, r4, r5, r6⟩ := place_rng ok
  have hp : placeR4 n c = (c / (n * n), c % n, c / n % n, true, ()) := by unfold placeR4; rw [if_pos ok]
  have hf : I64 (c / (n * n)) := ⟨by omega, by omega⟩
  have ho : ∀ x, 0 ≤ x → x ≤ 33 → I64 x := fun x a b => ⟨by omega, by omega⟩
  have w0 : ∀ x, 0 ≤ x → x ≤ 33 → IntKind.i64.wrap (x + 0) = x := fun x a b => by rw [Int.add_zero, wi (ho x a b)]
  have w1 : ∀ x, 0 ≤ x → x ≤ 32 → IntKind.i64.wrap (x + 1) = x + 1 := fun x a b => wi (ho _ (by omega) (by omega))
  have hC : ∀ i j, 0 ≤ i → i ≤ n → 0 ≤ j → j ≤ n → cornerR n (c / (n * n)) i j = (cornerQ n (c / (n * n)) i j, true, ()) := by
    intro i j a1 a2 a3 a4
    unfold cornerR
    rw [if_pos]
    unfold cornerOk
    rw [goodC_iff.2 ⟨h1, h2⟩, decide_eq_true (by omega), decide_eq_true (by omega), decide_eq_true (by omega), decide_eq_true (by omega), decide_eq_true (by omega), decide_eq_true (by omega)]
    rfl
  have a0 := w0 (c % n) (by omega) (by omega)
  have a1 := w1 (c % n) (by omega) (by omega)
  have b0 := w0 (c / n % n) (by omega) (by omega)
  have b1 := w1 (c / n % n) (by omega) (by omega)
  have A0 : I64 (IntKind.i64.wrap (c % n + 0)) := by rw [a0]; exact ho _ (by omega) (by omega)
  have A1 : I64 (IntKind.i64.wrap (c % n + 1)) := by rw [a1]; exact ho _ (by omega) (by omega)
  have B0 : I64 (IntKind.i64.wrap (c / n % n + 0)) := by rw [b0]; exact ho _ (by omega) (by omega)
  have B1 : I64 (IntKind.i64.wrap (c / n % n + 1)) := by rw [b1]; exact ho _ (by omega) (by omega)
  rw [hp]
  refine ⟨by decide, ⟨by decide, by decide⟩, ⟨by decide, by decide, by decide⟩, ⟨by decide, by decide, by decide⟩, ⟨hn, hf, A0, B0⟩, ⟨by decide, by decide, Nat.le_refl 4⟩,
    by decide, ⟨by decide, by decide⟩, ⟨by decide, by decide, by decide⟩, ⟨by decide, by decide, by decide⟩, ⟨hn, hf, A1, B0⟩, ⟨by decide, by decide, Nat.le_refl 4⟩,
    by decide, ⟨by decide, by decide⟩, ⟨by decide, by decide, by decide⟩, ⟨by decide, by decide, by decide⟩, ⟨hn, hf, A1, B1⟩, ⟨by decide, by decide, Nat.le_refl 4⟩,
    by decide, ⟨by decide, by decide⟩, ⟨by decide, by decide, by decide⟩, ⟨by decide, by decide, by decide⟩, ⟨hn, hf, A0, B1⟩, ⟨by decide, by decide, Nat.le_refl 4⟩, rfl, ⟨rfl, rfl⟩, rfl, ?_⟩
  show ([(cornerR n (c / (n * n)) (IntKind.i64.wrap (c % n + 0)) (IntKind.i64.wrap (c / n % n + 0))).1, (cornerR n (c / (n * n)) (IntKind.i64.wrap (c % n + 1)) (IntKind.i64.wrap (c / n % n + 0))).1, (cornerR n (c / (n * n)) (IntKind.i64.wrap (c % n + 1)) (IntKind.i64.wrap (c / n % n + 1))).1, (cornerR n (c / (n * n)) (IntKind.i64.wrap (c % n + 0)) (IntKind.i64.wrap (c / n % n + 1))).1], true, ()) = _
  rw [a0, a1, b0, b1, hC _ _ (by omega) (by omega) (by omega) (by omega), hC _ _ (by omega) (by omega) (by omega) (by omega), hC _ _ (by omega) (by omega) (by omega) (by omega), hC _ _ (by omega) (by omega) (by omega) (by omega)]
  unfold cornersR; rw [if_pos ok]
def Fx_geom_Area := fun (n c : Int) (post : Int × Unit → Prop) => ∃ (h : II n c), ∃ (h : (List.replicate (4 : Nat) ((K.flt Go.FloatKind.f64).pair ((K.flt Go.FloatKind.f64).pair
  (K.flt Go.FloatKind.f64))).dflt).length = (4 : Nat) ∧ (cornersR n c).fst.length = (4 : Nat)), Br (!(cornersR n c).snd.fst) (post ((0 : Int), ())) (∃ (h : (0 : Int) ≤ (2 : Int) ∧
  (2 : Int) < (↑(4 : Nat) : Int) ∧ (4 : Nat) ≤ (cornersR n c).fst.length), ∃ (h : (0 : Int) ≤ (0 : Int) ∧ (0 : Int) < (↑(4 : Nat) : Int) ∧ (4 : Nat) ≤ (cornersR n c).fst.length), ∃
  (h : WV2 ((cornersR n c).fst.getD (Int.toNat (2 : Int)) ((K.flt Go.FloatKind.f64).pair ((K.flt Go.FloatKind.f64).pair (K.flt Go.FloatKind.f64))).dflt) ((cornersR n c).fst.getD
  (Int.toNat (0 : Int)) ((K.flt Go.FloatKind.f64).pair ((K.flt Go.FloatKind.f64).pair (K.flt Go.FloatKind.f64))).dflt)), ∃ (h : (0 : Int) ≤ (3 : Int) ∧ (3 : Int) < (↑(4 : Nat) :
  Int) ∧ (4 : Nat) ≤ (cornersR n c).fst.length), ∃ (h : (0 : Int) ≤ (1 : Int) ∧ (1 : Int) < (↑(4 : Nat) : Int) ∧ (4 : Nat) ≤ (cornersR n c).fst.length), ∃ (h : WV2 ((cornersR n
  c).fst.getD (Int.toNat (3 : Int)) ((K.flt Go.FloatKind.f64).pair ((K.flt Go.FloatKind.f64).pair (K.flt Go.FloatKind.f64))).dflt) ((cornersR n c).fst.getD (Int.toNat (1 : Int))
  ((K.flt Go.FloatKind.f64).pair ((K.flt Go.FloatKind.f64).pair (K.flt Go.FloatKind.f64))).dflt)), ∃ (h : True), ∃ (h : WV (crossR (minusR ((cornersR n c).fst.getD (Int.toNat (2 :
  Int)) ((K.flt Go.FloatKind.f64).pair ((K.flt Go.FloatKind.f64).pair (K.flt Go.FloatKind.f64))).dflt) ((cornersR n c).fst.getD (Int.toNat (0 : Int)) ((K.flt Go.FloatKind.f64).pair
  ((K.flt Go.FloatKind.f64).pair (K.flt Go.FloatKind.f64))).dflt)).fst (minusR ((cornersR n c).fst.getD (Int.toNat (3 : Int)) ((K.flt Go.FloatKind.f64).pair ((K.flt
  Go.FloatKind.f64).pair (K.flt Go.FloatKind.f64))).dflt) ((cornersR n c).fst.getD (Int.toNat (1 : Int)) ((K.flt Go.FloatKind.f64).pair ((K.flt Go.FloatKind.f64).pair (K.flt
  Go.FloatKind.f64))).dflt)).fst).fst), ∀ (a : Nat), FRes Go.FloatKind.f64 (Go.FloatKind.f64.format.mul (lengthR (crossR (minusR ((cornersR n c).fst.getD (Int.toNat (2 : Int))
  ((K.flt Go.FloatKind.f64).pair ((K.flt Go.FloatKind.f64).pair (K.flt Go.FloatKind.f64))).dflt) ((cornersR n c).fst.getD (Int.toNat (0 : Int)) ((K.flt Go.FloatKind.f64).pair
  ((K.flt Go.FloatKind.f64).pair (K.flt Go.FloatKind.f64))).dflt)).fst (minusR ((cornersR n c).fst.getD (Int.toNat (3 : Int)) ((K.flt Go.FloatKind.f64).pair ((K.flt
  Go.FloatKind.f64).pair (K.flt Go.FloatKind.f64))).dflt) ((cornersR n c).fst.getD (Int.toNat (1 : Int)) ((K.flt Go.FloatKind.f64).pair ((K.flt Go.FloatKind.f64).pair (K.flt
  Go.FloatKind.f64))).dflt)).fst).fst).fst (4602678819172646912 : Nat)) a → ∀ (a_1 : Nat), FRes Go.FloatKind.f64 (Go.FloatKind.f64.format.mul a (4742290407621132288 : Nat)) a_1 → ∃
  (h : W64 a_1), post (imax (roundR a_1).fst (1 : Int), ()))
theorem Lx_geom_Area (n : Int) (c : Int) (h : II n c) : Fx_geom_Area  n c (fun r => r = areaR n c) := by
  have g0 : ∀ i : Nat, WV ((cornersR n c).fst.getD i ((K.flt Go.FloatKind.f64).pair ((K.flt Go.FloatKind.f64).pair (K.flt Go.FloatKind.f64))).dflt) := corners_w n c
  have hl := corners_len n c
  refine ⟨h, ⟨by decide, hl⟩, ?_⟩
  rw [hl]
  refine Br.intro (fun e => ?_) fun e => ?_
  · rw [corners_ok] at e
    exact congrArg r1 (by unfold areaI; rw [if_neg (by intro q; rw [q] at e; cases e)])
  rw [corners_ok] at e
  have ok : placeOk n c = true := by simpa using e
  refine ⟨⟨by decide, by decide, Nat.le_refl 4⟩, ⟨by decide, by decide, Nat.le_refl 4⟩, ⟨g0 2, g0 0⟩, ⟨by decide, by decide, Nat.le_refl 4⟩, ⟨by decide, by decide, Nat.le_refl 4⟩, ⟨g0 3, g0 1⟩, trivial, crossV_w _ _, ?_⟩
  intro x hx y hy
  obtain ⟨x1, x2⟩ := fmul hx
  obtain ⟨y1, y2⟩ := fmul hy
  refine ⟨y2, congrArg r1 ?_⟩
  have hs : cornersR n c = ([cornerC n c 0 0, cornerC n c 1 0, cornerC n c 1 1, cornerC n c 0 1], true, ()) := by
    unfold cornersR; rw [if_pos ok]; unfold cornerC; rw [Int.add_zero, Int.add_zero]
  have hq : [cornerC n c 0 0, cornerC n c 1 0, cornerC n c 1 1, cornerC n c 0 1] = (cornersR n c).1 := by rw [hs]
  have hx1 : quietF x = mulQ (spanQ n c) halfR := by
    rw [x1]
    exact congrArg (fun z => mulQ z 4602678819172646912) (span_l (z := (0, 0, 0)) hq.symm)
  have hy1 : quietF y = mulQ (mulQ (spanQ n c) halfR) unitArea := by
    rw [y1]
    have u : quietF x = quietF (mulQ (spanQ n c) halfR) := by rw [hx1, mulQ_q]
    exact mulQ_congr u rfl
  show imax (roundI y).1 1 = areaI n c
  unfold areaI
  rw [if_pos ok, round_quiet y2, hy1]
end Go.Lift

set_option linter.unusedVariables false
set_option linter.unusedSimpArgs false
namespace Go.Lift
def Fx_vec_canon := fun (a b c : Nat) (post : (Nat × Nat × Nat) × Unit → Prop) => ∃ (h : True), ∃ (h : True), ∃ (h : True), post (((canonR a).fst, (canonR b).fst, (canonR c).fst),
  ())
theorem Lx_vec_canon (a : Nat) (b : Nat) (c : Nat) : Fx_vec_canon  a b c (fun r => r = canonVR a b c) := by
  exact ⟨trivial, trivial, trivial, rfl⟩
def Fx_vec_Minus := fun (a b : Nat × Nat × Nat) (post : (Nat × Nat × Nat) × Unit → Prop) => ∀ (a_1 : Nat), FRes Go.FloatKind.f64 (Go.FloatKind.f64.format.sub a.fst b.fst) a_1 → ∀
  (a_2 : Nat), FRes Go.FloatKind.f64 (Go.FloatKind.f64.format.sub a.snd.fst b.snd.fst) a_2 → ∀ (a_3 : Nat), FRes Go.FloatKind.f64 (Go.FloatKind.f64.format.sub a.snd.snd b.snd.snd)
  a_3 → ∃ (h : True), post (((canonVR a_1 a_2 a_3).fst.fst, (canonVR a_1 a_2 a_3).fst.snd.fst, (canonVR a_1 a_2 a_3).fst.snd.snd), ())
theorem Lx_vec_Minus (a : Nat × Nat × Nat) (b : Nat × Nat × Nat) (h : WV2 a b) : Fx_vec_Minus  a b (fun r => r = minusR a b) := by
  intro x hx y hy z hz
  exact ⟨trivial, congrArg r1 (canonV_congr (fsub hx).1 (fsub hy).1 (fsub hz).1)⟩
def Fx_vec_Cross := fun (a b : Nat × Nat × Nat) (post : (Nat × Nat × Nat) × Unit → Prop) => ∀ (a_1 : Nat), FRes Go.FloatKind.f64 (Go.FloatKind.f64.format.mul a.snd.fst b.snd.snd)
  a_1 → ∀ (a_2 : Nat), FRes Go.FloatKind.f64 (Go.FloatKind.f64.format.mul a.snd.snd b.snd.fst) a_2 → ∀ (a_3 : Nat), FRes Go.FloatKind.f64 (Go.FloatKind.f64.format.sub a_1 a_2) a_3 →
  ∀ (a_4 : Nat), FRes Go.FloatKind.f64 (Go.FloatKind.f64.format.mul a.snd.snd b.fst) a_4 → ∀ (a_5 : Nat), FRes Go.FloatKind.f64 (Go.FloatKind.f64.format.mul a.fst b.snd.snd) a_5 → ∀
  (a_6 : Nat), FRes Go.FloatKind.f64 (Go.FloatKind.f64.format.sub a_4 a_5) a_6 → ∀ (a_7 : Nat), FRes Go.FloatKind.f64 (Go.FloatKind.f64.format.mul a.fst b.snd.fst) a_7 → ∀ (a_8 :
  Nat), FRes Go.FloatKind.f64 (Go.FloatKind.f64.format.mul a.snd.fst b.fst) a_8 → ∀ (a : Nat), FRes Go.FloatKind.f64 (Go.FloatKind.f64.format.sub a_7 a_8) a → ∃ (h : True), post
  (((canonVR a_3 a_6 a).fst.fst, (canonVR a_3 a_6 a).fst.snd.fst, (canonVR a_3 a_6 a).fst.snd.snd), ())
theorem Lx_vec_Cross (a : Nat × Nat × Nat) (b : Nat × Nat × Nat) : Fx_vec_Cross  a b (fun r => r = crossR a b) := by
  intro x1 h1 x2 h2 x3 h3 x4 h4 x5 h5 x6 h6 x7 h7 x8 h8 x9 h9
  exact ⟨trivial, congrArg r1 (canonV_congr (less_eq (fmul h1).1 (fmul h2).1 (fsub h3).1) (less_eq (fmul h4).1 (fmul h5).1 (fsub h6).1) (less_eq (fmul h7).1 (fmul h8).1 (fsub h9).1))⟩
def Fx_math_Sqrt := fun (a : Nat) (post : Nat × Unit → Prop) => ∃ (h : True), ∀ (a_1 : Nat × Unit), sqrtP a a_1 → post (a_1.fst, ())
theorem Lx_math_Sqrt (a : Nat) : Fx_math_Sqrt  a (fun r => sqrtP a r) := by
  exact ⟨trivial, fun x hx => hx⟩
def Fx_vec_Length := fun (a : Nat × Nat × Nat) (post : Nat × Unit → Prop) => ∀ (a_1 : Nat), FRes Go.FloatKind.f64 (Go.FloatKind.f64.format.mul a.fst a.fst) a_1 → ∀ (a_2 : Nat), FRes
  Go.FloatKind.f64 (Go.FloatKind.f64.format.mul a.snd.fst a.snd.fst) a_2 → ∀ (a_3 : Nat), FRes Go.FloatKind.f64 (Go.FloatKind.f64.format.mul a.snd.snd a.snd.snd) a_3 → ∃ (h : W3 a_1
  a_2 a_3), ∃ (h : True), ∀ (a : Nat × Unit), sqrtP (threeR a_1 a_2 a_3).fst a → ∃ (h : True), post ((canonR a.fst).fst, ())
theorem Lx_vec_Length (a : Nat × Nat × Nat) (h : WV a) : Fx_vec_Length  a (fun r => r = lengthR a) := by
  intro x hx y hy z hz
  exact ⟨⟨(fmul hx).2, (fmul hy).2, (fmul hz).2⟩, trivial, fun w hw => ⟨trivial, congrArg r1 (length_eq (fmul hx).1 (fmul hy).1 (fmul hz).1 hw.1)⟩⟩
def Fx_vec_Gap := fun (a b : Nat × Nat × Nat) (post : Nat × Unit → Prop) => ∃ (h : WV2 (a.fst, a.snd.fst, a.snd.snd) (b.fst, b.snd.fst, b.snd.snd)), ∃ (h : WV (minusR (a.fst,
  a.snd.fst, a.snd.snd) (b.fst, b.snd.fst, b.snd.snd)).fst), post ((lengthR (minusR (a.fst, a.snd.fst, a.snd.snd) (b.fst, b.snd.fst, b.snd.snd)).fst).fst, ())
theorem Lx_vec_Gap (a : Nat × Nat × Nat) (b : Nat × Nat × Nat) (h : WV2 a b) : Fx_vec_Gap  a b (fun r => r = gapR a b) := by
  exact ⟨h, minusV_w _ _, rfl⟩
def Fx_vec_Unit := fun (a : Nat × Nat × Nat) (post : (Nat × Nat × Nat) × Unit → Prop) => ∃ (h : WV (a.fst, a.snd.fst, a.snd.snd)), ∀ (a_1 : Bool), a_1 = fcmp Go.BinOp.gtr
  (Go.FloatKind.f64.format.order (lengthR (a.fst, a.snd.fst, a.snd.snd)).fst (0 : Nat)) → Br (!a_1) (post (((0 : Nat), (0 : Nat), (0 : Nat)), ())) (∃ (h : WI (lengthR (a.fst,
  a.snd.fst, a.snd.snd)).fst (1 : Int)), ∀ (a_2 : Bool), a_2 = (infSR (lengthR (a.fst, a.snd.fst, a.snd.snd)).fst (1 : Int)).fst → Br a_2 (post (((0 : Nat), (0 : Nat), (0 : Nat)),
  ())) (∀ (a_3 : Nat), FRes Go.FloatKind.f64 (Go.FloatKind.f64.format.div a.fst (lengthR (a.fst, a.snd.fst, a.snd.snd)).fst) a_3 → ∀ (a_4 : Nat), FRes Go.FloatKind.f64
  (Go.FloatKind.f64.format.div a.snd.fst (lengthR (a.fst, a.snd.fst, a.snd.snd)).fst) a_4 → ∀ (a_5 : Nat), FRes Go.FloatKind.f64 (Go.FloatKind.f64.format.div a.snd.snd (lengthR
  (a.fst, a.snd.fst, a.snd.snd)).fst) a_5 → ∃ (h : True), post (((canonVR a_3 a_4 a_5).fst.fst, (canonVR a_3 a_4 a_5).fst.snd.fst, (canonVR a_3 a_4 a_5).fst.snd.snd), ())))
theorem Lx_vec_Unit (a : Nat × Nat × Nat) (h : WV a) : Fx_vec_Unit  a (fun r => r = unitR a) := by
  refine ⟨h, ?_⟩
  have hs := lengthQ_sgn a
  have hg := gt_zero hs
  rintro _ rfl
  refine Br.intro (fun e => ?_) fun e => ⟨lengthQ_w a, ?_⟩
  · have e : (!fcmp .gtr (Ieee.double.order (lengthQ a) 0)) = true := e
    rw [hg] at e
    refine (congrArg r1 (unit_zero ?_)).symm
    rw [class12]
    rintro ⟨h1, h2⟩
    have : isN (lengthQ a) = false := by unfold isN; simp; omega
    rw [this] at e
    simp [h1] at e
  · have e : (!fcmp .gtr (Ieee.double.order (lengthQ a) 0)) = false := e
    rw [hg] at e
    have e : isN (lengthQ a) = false ∧ rungOf (lengthQ a) ≠ 0 := by simpa using e
    have hi : infS (lengthQ a) 1 = decide (rungOf (lengthQ a) = infR) := by unfold infS; rw [if_neg (by decide), if_neg (by decide), hs]; simp
    rintro _ rfl
    refine Br.intro (fun f => ?_) fun f => ?_
    · have f : infS (lengthQ a) 1 = true := f
      rw [hi] at f
      have f := of_decide_eq_true f
      exact (congrArg r1 (unit_zero (by rw [class12]; rintro ⟨h1, h2⟩; omega))).symm
    · have f : infS (lengthQ a) 1 = false := f
      rw [hi] at f
      have f := of_decide_eq_false f
      have g : rungOf (lengthQ a) ≤ infR := by have := e.1; unfold isN at this; simpa using this
      intro x hx y hy z hz
      exact ⟨trivial, congrArg r1 (unit_some ((class12 _).2 ⟨e.2, by omega⟩) (fdiv hx).1 (fdiv hy).1 (fdiv hz).1)⟩
end Go.Lift

set_option linter.unusedVariables false
set_option linter.unusedSimpArgs false
namespace Go.Lift
open Go.Proofs
def Rax_vec_canon : Cx := ⟨tabOf Ratab, conOf [(59, Raq_bits_Canon)], RaG⟩
theorem Rax_vec_canon_ok : CxOk Tryd.prog Rax_vec_canon := ⟨tabB_sound Ratab_ok, conOf_sound ⟨Rah_bits_Canon, trivial⟩⟩
theorem Raat_vec_canon : FnAt Tryd.prog 62 Tryd.f62.ntmps Tryd.f62.results.toList (Tryd.f62.body.getD .skip) := ⟨Tryd.f62, Tryd.func62, rfl, rfl, by simp, by decide⟩
theorem Raeq_vec_canon (a : Nat) (b : Nat) (c : Nat) (post : (Nat × Nat × Nat) × Unit → Prop) : fnEval Rax_vec_canon nHn Tryd.f62.ntmps Tryd.f62.results.toList (Tryd.f62.body.getD .skip) [.flt .f64, .flt .f64, .flt .f64] [.snap kVec] (a, b, c, ()) post = Fx_vec_canon  a b c post := by kernel_rfl
theorem Rah_vec_canon : Raq_vec_canon.holds Tryd.prog RaG 62 :=
  detP Rax_vec_canon_ok Ramixed nHn Raat_vec_canon (F := fun x post => Fx_vec_canon  x.1 x.2.1 x.2.2.1 post) (fun x post => Raeq_vec_canon x.1 x.2.1 x.2.2.1 post) fun x _ _ => Lx_vec_canon  x.1 x.2.1 x.2.2.1
def Rax_vec_Minus : Cx := ⟨tabOf Ratab, conOf [(62, Raq_vec_canon)], RaG⟩
theorem Rax_vec_Minus_ok : CxOk Tryd.prog Rax_vec_Minus := ⟨tabB_sound Ratab_ok, conOf_sound ⟨Rah_vec_canon, trivial⟩⟩
theorem Raat_vec_Minus : FnAt Tryd.prog 51 Tryd.f51.ntmps Tryd.f51.results.toList (Tryd.f51.body.getD .skip) := ⟨Tryd.f51, Tryd.func51, rfl, rfl, by simp, by decide⟩
theorem Raeq_vec_Minus (a : Nat × Nat × Nat) (b : Nat × Nat × Nat) (post : (Nat × Nat × Nat) × Unit → Prop) : fnEval Rax_vec_Minus nHn Tryd.f51.ntmps Tryd.f51.results.toList (Tryd.f51.body.getD .skip) [kVec, kVec] [.snap kVec] (a, b, ()) post = Fx_vec_Minus  a b post := by kernel_rfl
theorem Rah_vec_Minus : Raq_vec_Minus.holds Tryd.prog RaG 51 :=
  detP Rax_vec_Minus_ok Ramixed nHn Raat_vec_Minus (F := fun x post => Fx_vec_Minus  x.1 x.2.1 post) (fun x post => Raeq_vec_Minus x.1 x.2.1 post) fun x h _ => Lx_vec_Minus  x.1 x.2.1 h
def Rax_vec_Cross : Cx := ⟨tabOf Ratab, conOf [(62, Raq_vec_canon)], RaG⟩
theorem Rax_vec_Cross_ok : CxOk Tryd.prog Rax_vec_Cross := ⟨tabB_sound Ratab_ok, conOf_sound ⟨Rah_vec_canon, trivial⟩⟩
theorem Raat_vec_Cross : FnAt Tryd.prog 50 Tryd.f50.ntmps Tryd.f50.results.toList (Tryd.f50.body.getD .skip) := ⟨Tryd.f50, Tryd.func50, rfl, rfl, by simp, by decide⟩
theorem Raeq_vec_Cross (a : Nat × Nat × Nat) (b : Nat × Nat × Nat) (post : (Nat × Nat × Nat) × Unit → Prop) : fnEval Rax_vec_Cross nHn Tryd.f50.ntmps Tryd.f50.results.toList (Tryd.f50.body.getD .skip) [kVec, kVec] [.snap kVec] (a, b, ()) post = Fx_vec_Cross  a b post := by kernel_rfl
theorem Rah_vec_Cross : Raq_vec_Cross.holds Tryd.prog RaG 50 :=
  detP Rax_vec_Cross_ok Ramixed nHn Raat_vec_Cross (F := fun x post => Fx_vec_Cross  x.1 x.2.1 post) (fun x post => Raeq_vec_Cross x.1 x.2.1 post) fun x _ _ => Lx_vec_Cross  x.1 x.2.1
def Rax_math_Sqrt : Cx := ⟨tabOf Ratab, conOf [(67, Raq_math_sqrt)], RaG⟩
theorem Rax_math_Sqrt_ok : CxOk Tryd.prog Rax_math_Sqrt := ⟨tabB_sound Ratab_ok, conOf_sound ⟨Rah_math_sqrt, trivial⟩⟩
theorem Raat_math_Sqrt : FnAt Tryd.prog 60 Tryd.f60.ntmps Tryd.f60.results.toList (Tryd.f60.body.getD .skip) := ⟨Tryd.f60, Tryd.func60, rfl, rfl, by simp, by decide⟩
theorem Raeq_math_Sqrt (a : Nat) (post : Nat × Unit → Prop) : fnEval Rax_math_Sqrt nHn Tryd.f60.ntmps Tryd.f60.results.toList (Tryd.f60.body.getD .skip) [.flt .f64] [.snap (.flt .f64)] (a, ()) post = Fx_math_Sqrt  a post := by kernel_rfl
theorem Rah_math_Sqrt : Raq_math_Sqrt.holds Tryd.prog RaG 60 :=
  relP Rax_math_Sqrt_ok Ramixed nHn Raat_math_Sqrt (F := fun x post => Fx_math_Sqrt  x.1 post) (fun x post => Raeq_math_Sqrt x.1 post) fun x _ _ => Lx_math_Sqrt  x.1
def Rax_vec_Length : Cx := ⟨tabOf Ratab, conOf [(61, Raq_sum_Three), (60, Raq_math_Sqrt), (59, Raq_bits_Canon)], RaG⟩
theorem Rax_vec_Length_ok : CxOk Tryd.prog Rax_vec_Length := ⟨tabB_sound Ratab_ok, conOf_sound ⟨Rah_sum_Three, Rah_math_Sqrt, Rah_bits_Canon, trivial⟩⟩
theorem Raat_vec_Length : FnAt Tryd.prog 49 Tryd.f49.ntmps Tryd.f49.results.toList (Tryd.f49.body.getD .skip) := ⟨Tryd.f49, Tryd.func49, rfl, rfl, by simp, by decide⟩
theorem Raeq_vec_Length (a : Nat × Nat × Nat) (post : Nat × Unit → Prop) : fnEval Rax_vec_Length nHn Tryd.f49.ntmps Tryd.f49.results.toList (Tryd.f49.body.getD .skip) [kVec] [.snap (.flt .f64)] (a, ()) post = Fx_vec_Length  a post := by kernel_rfl
theorem Rah_vec_Length : Raq_vec_Length.holds Tryd.prog RaG 49 :=
  detP Rax_vec_Length_ok Ramixed nHn Raat_vec_Length (F := fun x post => Fx_vec_Length  x.1 post) (fun x post => Raeq_vec_Length x.1 post) fun x h _ => Lx_vec_Length  x.1 h
def Rax_vec_Gap : Cx := ⟨tabOf Ratab, conOf [(51, Raq_vec_Minus), (49, Raq_vec_Length)], RaG⟩
theorem Rax_vec_Gap_ok : CxOk Tryd.prog Rax_vec_Gap := ⟨tabB_sound Ratab_ok, conOf_sound ⟨Rah_vec_Minus, Rah_vec_Length, trivial⟩⟩
theorem Raat_vec_Gap : FnAt Tryd.prog 43 Tryd.f43.ntmps Tryd.f43.results.toList (Tryd.f43.body.getD .skip) := ⟨Tryd.f43, Tryd.func43, rfl, rfl, by simp, by decide⟩
theorem Raeq_vec_Gap (a : Nat × Nat × Nat) (b : Nat × Nat × Nat) (post : Nat × Unit → Prop) : fnEval Rax_vec_Gap nHn Tryd.f43.ntmps Tryd.f43.results.toList (Tryd.f43.body.getD .skip) [kVec, kVec] [.snap (.flt .f64)] (a, b, ()) post = Fx_vec_Gap  a b post := by kernel_rfl
theorem Rah_vec_Gap : Raq_vec_Gap.holds Tryd.prog RaG 43 :=
  detP Rax_vec_Gap_ok Ramixed nHn Raat_vec_Gap (F := fun x post => Fx_vec_Gap  x.1 x.2.1 post) (fun x post => Raeq_vec_Gap x.1 x.2.1 post) fun x h _ => Lx_vec_Gap  x.1 x.2.1 h
def Rax_vec_Unit : Cx := ⟨tabOf Ratab, conOf [(49, Raq_vec_Length), (78, Raq_math_IsInf), (62, Raq_vec_canon)], RaG⟩
theorem Rax_vec_Unit_ok : CxOk Tryd.prog Rax_vec_Unit := ⟨tabB_sound Ratab_ok, conOf_sound ⟨Rah_vec_Length, Rah_math_IsInf, Rah_vec_canon, trivial⟩⟩
theorem Raat_vec_Unit : FnAt Tryd.prog 65 Tryd.f65.ntmps Tryd.f65.results.toList (Tryd.f65.body.getD .skip) := ⟨Tryd.f65, Tryd.func65, rfl, rfl, by simp, by decide⟩
theorem Raeq_vec_Unit (a : Nat × Nat × Nat) (post : (Nat × Nat × Nat) × Unit → Prop) : fnEval Rax_vec_Unit nHn Tryd.f65.ntmps Tryd.f65.results.toList (Tryd.f65.body.getD .skip) [kVec] [.snap kVec] (a, ()) post = Fx_vec_Unit  a post := by kernel_rfl
theorem Rah_vec_Unit : Raq_vec_Unit.holds Tryd.prog RaG 65 :=
  detP Rax_vec_Unit_ok Ramixed nHn Raat_vec_Unit (F := fun x post => Fx_vec_Unit  x.1 post) (fun x post => Raeq_vec_Unit x.1 post) fun x h _ => Lx_vec_Unit  x.1 h
end Go.Lift

set_option linter.unusedVariables false
set_option linter.unusedSimpArgs false
namespace Go.Lift
def Fx_math_Floor := fun (a : Nat) (post : Nat × Unit → Prop) => ∃ (h : WNum a), post ((floorR a).fst, ())
theorem Lx_math_Floor (a : Nat) (h : WNum a) : Fx_math_Floor  a (fun r => r = floorR a) := by
  exact ⟨h, rfl⟩
def Fx_conv_near := fun (a : Nat) (post : Int × Unit → Prop) => ∃ (h : WNum a), ∀ (a_1 : Int), F2I Go.FloatKind.f64 (floorR a).fst IntKind.u64 a_1 → ∀ (a_2 : Nat), FRes
  Go.FloatKind.f64 (Go.FloatKind.f64.format.sub a (floorR a).fst) a_2 → ∀ (a : Bool), a = fcmp Go.BinOp.gtr (Go.FloatKind.f64.format.order a_2 (4602678819172646912 : Nat)) → Br a
  (post (IntKind.u64.wrap (a_1 + (1 : Int)), ())) (∀ (a : Bool), a = fcmp Go.BinOp.eql (Go.FloatKind.f64.format.order a_2 (4602678819172646912 : Nat)) → Br a (∃ (h : (2 : Int) ≠ (0
  : Int)), ∀ (a : Bool), a = (a_1.tmod (2 : Int) == (1 : Int)) → Br a (post (IntKind.u64.wrap (a_1 + (1 : Int)), ())) (post (a_1, ()))) (post (a_1, ())))
theorem Lx_conv_near (a : Nat) (h : WNear a) : Fx_conv_near  a (fun r => r = nearR a) := by
  have hw : W64 a := by unfold WNear two63 at h; unfold W64; omega
  have hn : isN a = false := by
    have := (small_sgn (r := a) (by unfold WNear two63 at h; omega)).2.1
    unfold isN; rw [this, decide_eq_false_iff_not]; unfold WNear two63 at h; unfold infR; omega
  refine ⟨⟨hw, hn⟩, ?_⟩
  intro n hn2
  have hn2 := floor_int h hn2
  subst hn2
  intro d hd
  have hd : ∀ z, Ieee.double.order d z = Ieee.double.order (subQ a (floorF a)) z := sub_congr_order hd
  obtain ⟨_, r1', r2'⟩ := whole_rng h
  have hwp : IntKind.u64.wrap (wholeI (floorF a) + 1) = wholeI (floorF a) + 1 := wu1 ⟨by omega, by omega⟩
  have tm : (wholeI (floorF a)).tmod 2 = wholeI (floorF a) % 2 := Int.tmod_eq_emod_of_nonneg r1'
  rintro _ rfl
  refine Br.intro (fun e => ?_) fun e => ?_
  · rw [show Go.FloatKind.f64.format.order d 4602678819172646912 = _ from hd _] at e
    exact congrArg r1 (by rw [hwp]; unfold nearI; rw [if_pos (by rw [show fcmp .gtr (Ieee.double.order (subQ a (floorF a)) halfR) = true from e]; rfl)])
  · rw [show Go.FloatKind.f64.format.order d 4602678819172646912 = _ from hd _] at e
    rintro _ rfl
    refine Br.intro (fun f => ?_) fun f => ?_
    · rw [show Go.FloatKind.f64.format.order d 4602678819172646912 = _ from hd _] at f
      refine ⟨by decide, ?_⟩
      rintro _ rfl
      refine Br.intro (fun g => ?_) fun g => ?_
      · rw [tm] at g
        exact congrArg r1 (by rw [hwp]; unfold nearI; rw [if_pos (by rw [show fcmp .eql (Ieee.double.order (subQ a (floorF a)) halfR) = true from f, g, Bool.true_and, Bool.or_true])])
      · rw [tm] at g
        exact congrArg r1 (by unfold nearI; rw [if_neg (by rw [show fcmp .gtr (Ieee.double.order (subQ a (floorF a)) halfR) = false from e, g, Bool.and_false]; decide)])
    · rw [show Go.FloatKind.f64.format.order d 4602678819172646912 = _ from hd _] at f
      exact congrArg r1 (by unfold nearI; rw [if_neg (by rw [show fcmp .gtr (Ieee.double.order (subQ a (floorF a)) halfR) = false from e, show fcmp .eql (Ieee.double.order (subQ a (floorF a)) halfR) = false from f, Bool.false_and]; decide)])
def Fx_conv_Round := fun (a : Nat) (post : Int × Bool × Unit → Prop) => ∃ (h : W64 a), ∀ (a_1 : Bool), a_1 = fcmp Go.BinOp.lss (Go.FloatKind.f64.format.order (absR a).fst
  (4890909195324358656 : Nat)) → Br a_1 (∃ (h : WNear (absR a).fst), ∀ (a_2 : Bool), a_2 = fcmp Go.BinOp.lss (Go.FloatKind.f64.format.order a (0 : Nat)) → Br a_2 (post
  (IntKind.i64.wrap ((0 : Int) - IntKind.i64.wrap (nearR (absR a).fst).fst), Bool.true, ())) (post (IntKind.i64.wrap (nearR (absR a).fst).fst, Bool.true, ()))) (∀ (a_2 : Bool), a_2
  = fcmp Go.BinOp.eql (Go.FloatKind.f64.format.order a (14114281232179134464 : Nat)) → Br a_2 (post ((-9223372036854775808 : Int), Bool.true, ())) (post ((0 : Int), Bool.false,
  ())))
theorem Lx_conv_Round (a : Nat) (h : W64 a) : Fx_conv_Round  a (fun r => r = roundR a) := by
  refine ⟨h, ?_⟩
  rintro _ rfl
  refine Br.intro (fun e => ?_) fun e => ?_
  · have e : fcmp .lss (Ieee.double.order (rungOf a) two63) = true := e
    rw [lss_rung] at e
    have e := of_decide_eq_true e
    have hn : isN a = false := by unfold isN; rw [decide_eq_false_iff_not]; unfold two63 at e; unfold infR; omega
    refine ⟨e, ?_⟩
    rintro _ rfl
    refine Br.intro (fun f => ?_) fun f => ?_
    · rw [show fcmp .lss (Go.FloatKind.f64.format.order a 0) = _ from lss_nought hn] at f
      unfold roundR roundI; rw [if_pos e, if_pos f]; rfl
    · rw [show fcmp .lss (Go.FloatKind.f64.format.order a 0) = _ from lss_nought hn] at f
      unfold roundR roundI; rw [if_pos e, if_neg (by rw [f]; decide)]; rfl
  · have e : fcmp .lss (Ieee.double.order (rungOf a) two63) = false := e
    rw [lss_rung] at e
    have e := of_decide_eq_false e
    rintro _ rfl
    refine Br.intro (fun f => ?_) fun f => ?_
    · rw [show fcmp .eql (Go.FloatKind.f64.format.order a 14114281232179134464) = _ from eql_min h] at f
      unfold roundR roundI; rw [if_neg e, if_pos (show a = two63 + 9223372036854775808 from of_decide_eq_true f)]
    · rw [show fcmp .eql (Go.FloatKind.f64.format.order a 14114281232179134464) = _ from eql_min h] at f
      unfold roundR roundI; rw [if_neg e, if_neg (show ¬ a = two63 + 9223372036854775808 from of_decide_eq_false f)]
end Go.Lift

set_option linter.unusedVariables false
set_option linter.unusedSimpArgs false
namespace Go.Lift
open Go.Proofs
theorem Rah_math_archFloor : Raq_math_archFloor.holds Tryd.prog RaG 84 := by
  refine ext_floor (fn := Tryd.f84) Tryd.func84 (by decide) rfl rfl (by kernel_rfl)
def Rax_math_Floor : Cx := ⟨tabOf Ratab, conOf [(84, Raq_math_archFloor)], RaG⟩
theorem Rax_math_Floor_ok : CxOk Tryd.prog Rax_math_Floor := ⟨tabB_sound Ratab_ok, conOf_sound ⟨Rah_math_archFloor, trivial⟩⟩
theorem Raat_math_Floor : FnAt Tryd.prog 77 Tryd.f77.ntmps Tryd.f77.results.toList (Tryd.f77.body.getD .skip) := ⟨Tryd.f77, Tryd.func77, rfl, rfl, by simp, by decide⟩
theorem Raeq_math_Floor (a : Nat) (post : Nat × Unit → Prop) : fnEval Rax_math_Floor nHn Tryd.f77.ntmps Tryd.f77.results.toList (Tryd.f77.body.getD .skip) [.flt .f64] [.snap (.flt .f64)] (a, ()) post = Fx_math_Floor  a post := by kernel_rfl
theorem Rah_math_Floor : Raq_math_Floor.holds Tryd.prog RaG 77 :=
  detP Rax_math_Floor_ok Ramixed nHn Raat_math_Floor (F := fun x post => Fx_math_Floor  x.1 post) (fun x post => Raeq_math_Floor x.1 post) fun x h _ => Lx_math_Floor  x.1 h
def Rax_conv_near : Cx := ⟨tabOf Ratab, conOf [(77, Raq_math_Floor)], RaG⟩
theorem Rax_conv_near_ok : CxOk Tryd.prog Rax_conv_near := ⟨tabB_sound Ratab_ok, conOf_sound ⟨Rah_math_Floor, trivial⟩⟩
theorem Raat_conv_near : FnAt Tryd.prog 64 Tryd.f64.ntmps Tryd.f64.results.toList (Tryd.f64.body.getD .skip) := ⟨Tryd.f64, Tryd.func64, rfl, rfl, by simp, by decide⟩
theorem Raeq_conv_near (a : Nat) (post : Int × Unit → Prop) : fnEval Rax_conv_near nHn Tryd.f64.ntmps Tryd.f64.results.toList (Tryd.f64.body.getD .skip) [.flt .f64] [.snap (.int .u64)] (a, ()) post = Fx_conv_near  a post := by kernel_rfl
theorem Rah_conv_near : Raq_conv_near.holds Tryd.prog RaG 64 :=
  detP Rax_conv_near_ok Ramixed nHn Raat_conv_near (F := fun x post => Fx_conv_near  x.1 post) (fun x post => Raeq_conv_near x.1 post) fun x h _ => Lx_conv_near  x.1 h
def Rax_conv_Round : Cx := ⟨tabOf Ratab, conOf [(63, Raq_math_Abs), (64, Raq_conv_near)], RaG⟩
theorem Rax_conv_Round_ok : CxOk Tryd.prog Rax_conv_Round := ⟨tabB_sound Ratab_ok, conOf_sound ⟨Rah_math_Abs, Rah_conv_near, trivial⟩⟩
theorem Raat_conv_Round : FnAt Tryd.prog 52 Tryd.f52.ntmps Tryd.f52.results.toList (Tryd.f52.body.getD .skip) := ⟨Tryd.f52, Tryd.func52, rfl, rfl, by simp, by decide⟩
theorem Raeq_conv_Round (a : Nat) (post : Int × Bool × Unit → Prop) : fnEval Rax_conv_Round nHn Tryd.f52.ntmps Tryd.f52.results.toList (Tryd.f52.body.getD .skip) [.flt .f64] [.snap (.int .i64), .snap .bool] (a, ()) post = Fx_conv_Round  a post := by kernel_rfl
theorem Rah_conv_Round : Raq_conv_Round.holds Tryd.prog RaG 52 :=
  detP Rax_conv_Round_ok Ramixed nHn Raat_conv_Round (F := fun x post => Fx_conv_Round  x.1 post) (fun x post => Raeq_conv_Round x.1 post) fun x h _ => Lx_conv_Round  x.1 h
end Go.Lift

set_option linter.unusedVariables false
set_option linter.unusedSimpArgs false
namespace Go.Lift
open Go.Proofs
def Rax_geom_ratio : Cx := ⟨tabOf Ratab, conOf [], RaG⟩
theorem Rax_geom_ratio_ok : CxOk Tryd.prog Rax_geom_ratio := ⟨tabB_sound Ratab_ok, fun f c h => by cases h⟩
theorem Raat_geom_ratio : FnAt Tryd.prog 56 Tryd.f56.ntmps Tryd.f56.results.toList (Tryd.f56.body.getD .skip) := ⟨Tryd.f56, Tryd.func56, rfl, rfl, by simp, by decide⟩
theorem Raeq_geom_ratio (a : Int) (b : Int) (post : Nat × Unit → Prop) : fnEval Rax_geom_ratio nHn Tryd.f56.ntmps Tryd.f56.results.toList (Tryd.f56.body.getD .skip) [.int .i64, .int .i64] [.snap (.flt .f64)] (a, b, ()) post = Fx_geom_ratio  a b post := by kernel_rfl
theorem Rah_geom_ratio : Raq_geom_ratio.holds Tryd.prog RaG 56 :=
  detP Rax_geom_ratio_ok Ramixed nHn Raat_geom_ratio (F := fun x post => Fx_geom_ratio  x.1 x.2.1 post) (fun x post => Raeq_geom_ratio x.1 x.2.1 post) fun x h _ => Lx_geom_ratio  x.1 x.2.1 h
def Rax_geom_point : Cx := ⟨tabOf Ratab, conOf [(59, Raq_bits_Canon), (65, Raq_vec_Unit)], RaG⟩
theorem Rax_geom_point_ok : CxOk Tryd.prog Rax_geom_point := ⟨tabB_sound Ratab_ok, conOf_sound ⟨Rah_bits_Canon, Rah_vec_Unit, trivial⟩⟩
theorem Raat_geom_point : FnAt Tryd.prog 55 Tryd.f55.ntmps Tryd.f55.results.toList (Tryd.f55.body.getD .skip) := ⟨Tryd.f55, Tryd.func55, rfl, rfl, by simp, by decide⟩
theorem Raeq_geom_point (f : Int) (s : Nat) (t : Nat) (post : (Nat × Nat × Nat) × Unit → Prop) : fnEval Rax_geom_point Rahn_geom_point Tryd.f55.ntmps Tryd.f55.results.toList (Tryd.f55.body.getD .skip) [.int .i64, .flt .f64, .flt .f64] [.snap kVec] (f, s, t, ()) post = Fx_geom_point 86 110 f s t post := by kernel_rfl
theorem Rah_geom_point : Raq_geom_point.holds Tryd.prog RaG 55 :=
  detP Rax_geom_point_ok Ramixed Rahn_geom_point Raat_geom_point (F := fun x post => Fx_geom_point 86 110 x.1 x.2.1 x.2.2.1 post) (fun x post => Raeq_geom_point x.1 x.2.1 x.2.2.1 post) fun x h _ => Lx_geom_point 86 110 x.1 x.2.1 x.2.2.1 h
def Rax_geom_Corner : Cx := ⟨tabOf Ratab, conOf [(22, Raq_cube_Cells), (56, Raq_geom_ratio), (55, Raq_geom_point)], RaG⟩
theorem Rax_geom_Corner_ok : CxOk Tryd.prog Rax_geom_Corner := ⟨tabB_sound Ratab_ok, conOf_sound ⟨Rah_cube_Cells, Rah_geom_ratio, Rah_geom_point, trivial⟩⟩
theorem Raat_geom_Corner : FnAt Tryd.prog 54 Tryd.f54.ntmps Tryd.f54.results.toList (Tryd.f54.body.getD .skip) := ⟨Tryd.f54, Tryd.func54, rfl, rfl, by simp, by decide⟩
theorem Raeq_geom_Corner (n : Int) (f : Int) (i : Int) (j : Int) (post : (Nat × Nat × Nat) × Bool × Unit → Prop) : fnEval Rax_geom_Corner nHn Tryd.f54.ntmps Tryd.f54.results.toList (Tryd.f54.body.getD .skip) [.int .i64, .int .i64, .int .i64, .int .i64] [.snap kVec, .snap .bool] (n, f, i, j, ()) post = Fx_geom_Corner  n f i j post := by kernel_rfl
theorem Rah_geom_Corner : Raq_geom_Corner.holds Tryd.prog RaG 54 :=
  detP Rax_geom_Corner_ok Ramixed nHn Raat_geom_Corner (F := fun x post => Fx_geom_Corner  x.1 x.2.1 x.2.2.1 x.2.2.2.1 post) (fun x post => Raeq_geom_Corner x.1 x.2.1 x.2.2.1 x.2.2.2.1 post) fun x h _ => Lx_geom_Corner  x.1 x.2.1 x.2.2.1 x.2.2.2.1 h
def Rax_geom_corners : Cx := ⟨tabOf Ratab, conOf [(34, Raq_cube_Place), (54, Raq_geom_Corner)], RaG⟩
theorem Rax_geom_corners_ok : CxOk Tryd.prog Rax_geom_corners := ⟨tabB_sound Ratab_ok, conOf_sound ⟨Rah_cube_Place, Rah_geom_Corner, trivial⟩⟩
theorem Raat_geom_corners : FnAt Tryd.prog 42 Tryd.f42.ntmps Tryd.f42.results.toList (Tryd.f42.body.getD .skip) := ⟨Tryd.f42, Tryd.func42, rfl, rfl, by simp, by decide⟩
theorem Raeq_geom_corners (n : Int) (c : Int) (post : (List (Nat × Nat × Nat)) × Bool × Unit → Prop) : fnEval Rax_geom_corners Rahn_geom_corners Tryd.f42.ntmps Tryd.f42.results.toList (Tryd.f42.body.getD .skip) [.int .i64, .int .i64] [.snap (.arr 4 kVec), .snap .bool] (n, c, ()) post = Fx_geom_corners  n c post := by kernel_rfl
theorem Rah_geom_corners : Raq_geom_corners.holds Tryd.prog RaG 42 :=
  detP Rax_geom_corners_ok Ramixed Rahn_geom_corners Raat_geom_corners (F := fun x post => Fx_geom_corners  x.1 x.2.1 post) (fun x post => Raeq_geom_corners x.1 x.2.1 post) fun x h _ => Lx_geom_corners  x.1 x.2.1 h
def Rax_geom_Area : Cx := ⟨tabOf Ratab, conOf [(42, Raq_geom_corners), (51, Raq_vec_Minus), (50, Raq_vec_Cross), (49, Raq_vec_Length), (52, Raq_conv_Round)], RaG⟩
theorem Rax_geom_Area_ok : CxOk Tryd.prog Rax_geom_Area := ⟨tabB_sound Ratab_ok, conOf_sound ⟨Rah_geom_corners, Rah_vec_Minus, Rah_vec_Cross, Rah_vec_Length, Rah_conv_Round, trivial⟩⟩
theorem Raat_geom_Area : FnAt Tryd.prog 33 Tryd.f33.ntmps Tryd.f33.results.toList (Tryd.f33.body.getD .skip) := ⟨Tryd.f33, Tryd.func33, rfl, rfl, by simp, by decide⟩
theorem Raeq_geom_Area (n : Int) (c : Int) (post : Int × Unit → Prop) : fnEval Rax_geom_Area nHn Tryd.f33.ntmps Tryd.f33.results.toList (Tryd.f33.body.getD .skip) [.int .i64, .int .i64] [.snap (.int .i64)] (n, c, ()) post = Fx_geom_Area  n c post := by kernel_rfl
theorem Rah_geom_Area : Raq_geom_Area.holds Tryd.prog RaG 33 :=
  detP Rax_geom_Area_ok Ramixed nHn Raat_geom_Area (F := fun x post => Fx_geom_Area  x.1 x.2.1 post) (fun x post => Raeq_geom_Area x.1 x.2.1 post) fun x h _ => Lx_geom_Area  x.1 x.2.1 h
end Go.Lift

set_option linter.unusedVariables false
set_option linter.unusedSimpArgs false
namespace Go.Lift
open Go.Proofs
def Rax_geom_Middle : Cx := ⟨tabOf Ratab, conOf [(34, Raq_cube_Place), (56, Raq_geom_ratio), (55, Raq_geom_point)], RaG⟩
theorem Rax_geom_Middle_ok : CxOk Tryd.prog Rax_geom_Middle := ⟨tabB_sound Ratab_ok, conOf_sound ⟨Rah_cube_Place, Rah_geom_ratio, Rah_geom_point, trivial⟩⟩
theorem Raat_geom_Middle : FnAt Tryd.prog 44 Tryd.f44.ntmps Tryd.f44.results.toList (Tryd.f44.body.getD .skip) := ⟨Tryd.f44, Tryd.func44, rfl, rfl, by simp, by decide⟩
theorem Raeq_geom_Middle (n : Int) (c : Int) (post : (Nat × Nat × Nat) × Bool × Unit → Prop) : fnEval Rax_geom_Middle nHn Tryd.f44.ntmps Tryd.f44.results.toList (Tryd.f44.body.getD .skip) [.int .i64, .int .i64] [.snap kVec, .snap .bool] (n, c, ()) post = Fx_geom_Middle  n c post := by kernel_rfl
theorem Rah_geom_Middle : Raq_geom_Middle.holds Tryd.prog RaG 44 :=
  nam_of_det (detP Rax_geom_Middle_ok Ramixed nHn Raat_geom_Middle (F := fun x post => Fx_geom_Middle  x.1 x.2.1 post) (fun x post => Raeq_geom_Middle x.1 x.2.1 post) fun x h _ => Lx_geom_Middle  x.1 x.2.1 h)
def Rax_geom_Length : Cx := ⟨tabOf Ratab, conOf [(42, Raq_geom_corners), (43, Raq_vec_Gap)], RaG⟩
theorem Rax_geom_Length_ok : CxOk Tryd.prog Rax_geom_Length := ⟨tabB_sound Ratab_ok, conOf_sound ⟨Rah_geom_corners, Rah_vec_Gap, trivial⟩⟩
theorem Raat_geom_Length : FnAt Tryd.prog 26 Tryd.f26.ntmps Tryd.f26.results.toList (Tryd.f26.body.getD .skip) := ⟨Tryd.f26, Tryd.func26, rfl, rfl, by simp, by decide⟩
theorem Raeq_geom_Length (n : Int) (c : Int) (o : Int) (post : Nat × Unit → Prop) : fnEval Rax_geom_Length Rahn_geom_Length Tryd.f26.ntmps Tryd.f26.results.toList (Tryd.f26.body.getD .skip) [.int .i64, .int .i64, .int .i64] [.snap (.flt .f64)] (n, c, o, ()) post = Fx_geom_Length  n c o post := by kernel_rfl
theorem Rah_geom_Length : Raq_geom_Length.holds Tryd.prog RaG 26 :=
  nam_of_det (detP Rax_geom_Length_ok Ramixed Rahn_geom_Length Raat_geom_Length (F := fun x post => Fx_geom_Length  x.1 x.2.1 x.2.2.1 post) (fun x post => Raeq_geom_Length x.1 x.2.1 x.2.2.1 post) fun x h _ => Lx_geom_Length  x.1 x.2.1 x.2.2.1 h)
def Rax_geom_Gap : Cx := ⟨tabOf Ratab, conOf [(25, Raq_cube_Beside), (44, Raq_geom_Middle), (43, Raq_vec_Gap)], RaG⟩
theorem Rax_geom_Gap_ok : CxOk Tryd.prog Rax_geom_Gap := ⟨tabB_sound Ratab_ok, conOf_sound ⟨Rah_cube_Beside, Rah_geom_Middle, Rah_vec_Gap, trivial⟩⟩
theorem Raat_geom_Gap : FnAt Tryd.prog 27 Tryd.f27.ntmps Tryd.f27.results.toList (Tryd.f27.body.getD .skip) := ⟨Tryd.f27, Tryd.func27, rfl, rfl, by simp, by decide⟩
theorem Raeq_geom_Gap (n : Int) (c : Int) (o : Int) (post : Nat × Unit → Prop) : fnEval Rax_geom_Gap Rahn_geom_Gap Tryd.f27.ntmps Tryd.f27.results.toList (Tryd.f27.body.getD .skip) [.int .i64, .int .i64, .int .i64] [.snap (.flt .f64)] (n, c, o, ()) post = Fx_geom_Gap  n c o post := by kernel_rfl
theorem Rah_geom_Gap : Raq_geom_Gap.holds Tryd.prog RaG 27 :=
  nam_of_det (detP Rax_geom_Gap_ok Ramixed Rahn_geom_Gap Raat_geom_Gap (F := fun x post => Fx_geom_Gap  x.1 x.2.1 x.2.2.1 post) (fun x post => Raeq_geom_Gap x.1 x.2.1 x.2.2.1 post) fun x h _ => Lx_geom_Gap  x.1 x.2.1 x.2.2.1 h)
end Go.Lift

set_option linter.unusedVariables false
set_option linter.unusedSimpArgs false
namespace Go.Lift
open Go.Proofs
def Rax_grid_New : Cx := ⟨tabOf Ratab, conOf [(22, Raq_cube_Cells), (25, Raq_cube_Beside), (33, Raq_geom_Area), (26, Raq_geom_Length), (27, Raq_geom_Gap)], RaG⟩
theorem Rax_grid_New_ok : CxOk Tryd.prog Rax_grid_New := ⟨tabB_sound Ratab_ok, conOf_sound ⟨Rah_cube_Cells, Rah_cube_Beside, Rah_geom_Area, Rah_geom_Length, Rah_geom_Gap, trivial⟩⟩
theorem Raat_grid_New : FnAt Tryd.prog 8 Tryd.f8.ntmps Tryd.f8.results.toList (Tryd.f8.body.getD .skip) := ⟨Tryd.f8, Tryd.func8, rfl, rfl, by simp, by decide⟩
theorem Raeq_grid_New (n : Int) (post : (Option (Int × (List (Int × Int × Int × Int)) × (List ((Int × Int) × Int)) × (List (List Int)) × (List Int) × (List Nat) × List Nat)) × Int × Unit → Prop) : fnEvalI Rax_grid_New Rahn_grid_New (callLvl Rax_grid_New Rafns_grid 6) Tryd.f8.ntmps Tryd.f8.results.toList (Tryd.f8.body.getD .skip) [.int .i64] [.snap (.ptr kGrid), .snap (.int .i64)] (n, ()) post = Fx_grid_New 49 50 2 53 23 24 n post := by kernel_rfl
theorem Rah_grid_New : Raq_grid_New.holds Tryd.prog RaG 8 :=
  detPI Rax_grid_New_ok Ramixed Rahn_grid_New (callLvl_ok Rax_grid_New_ok Ramixed Rafns_grid_ok 6) Raat_grid_New (F := fun x post => Fx_grid_New 49 50 2 53 23 24 x.1 post) (fun x post => Raeq_grid_New x.1 post) fun x h _ => Lx_grid_New 49 50 2 53 23 24 x.1 h
end Go.Lift

set_option linter.unusedVariables false
set_option linter.unusedSimpArgs false
namespace Go.Lift
def Fx_grid_Grid_Cells_0 := fun (post : Int × Unit → Prop) => post ((0 : Int), ())
theorem Lx_grid_Grid_Cells_0  (w : KS.wf [.ptr kGrid] (none, ())) : Fx_grid_Grid_Cells_0   (fun r => r = nCellsR none) := by
  exact rfl
def Fx_grid_Grid_Cells_1 := fun (g : Int × List (Int × Int × Int × Int) × List ((Int × Int) × Int) × List (List Int) × List Int × List Nat × List Nat) (post : Int × Unit → Prop) =>
  ∃ (h : Option.some g ≠ Option.none), post ((↑g.snd.snd.snd.snd.fst.length : Int), ())
theorem Lx_grid_Grid_Cells_1 (g : Int × (List (Int × Int × Int × Int)) × (List ((Int × Int) × Int)) × (List (List Int)) × (List Int) × (List Nat) × List Nat) (w : KS.wf [.ptr kGrid] ((some g), ())) : Fx_grid_Grid_Cells_1  g (fun r => r = nCellsR (some g)) := by
  exact ⟨by simp, rfl⟩
def Fx_grid_Grid_Edges_0 := fun (post : Int × Unit → Prop) => post ((0 : Int), ())
theorem Lx_grid_Grid_Edges_0  (w : KS.wf [.ptr kGrid] (none, ())) : Fx_grid_Grid_Edges_0   (fun r => r = nEdgesR none) := by
  exact rfl
def Fx_grid_Grid_Edges_1 := fun (g : Int × List (Int × Int × Int × Int) × List ((Int × Int) × Int) × List (List Int) × List Int × List Nat × List Nat) (post : Int × Unit → Prop) =>
  ∃ (h : Option.some g ≠ Option.none), post ((↑g.snd.fst.length : Int), ())
theorem Lx_grid_Grid_Edges_1 (g : Int × (List (Int × Int × Int × Int)) × (List ((Int × Int) × Int)) × (List (List Int)) × (List Int) × (List Nat) × List Nat) (w : KS.wf [.ptr kGrid] ((some g), ())) : Fx_grid_Grid_Edges_1  g (fun r => r = nEdgesR (some g)) := by
  exact ⟨by simp, rfl⟩
end Go.Lift

set_option linter.unusedVariables false
set_option linter.unusedSimpArgs false
namespace Go.Lift
open Go.Proofs
def Rax_grid_Grid_Cells : Cx := ⟨tabOf Ratab, conOf [], RaG⟩
theorem Rax_grid_Grid_Cells_ok : CxOk Tryd.prog Rax_grid_Grid_Cells := ⟨tabB_sound Ratab_ok, fun f c h => by cases h⟩
theorem Raat_grid_Grid_Cells : FnAt Tryd.prog 10 Tryd.f10.ntmps Tryd.f10.results.toList (Tryd.f10.body.getD .skip) := ⟨Tryd.f10, Tryd.func10, rfl, rfl, by simp, by decide⟩
theorem Raeq_grid_Grid_Cells_0  (post : Int × Unit → Prop) : fnEval Rax_grid_Grid_Cells nHn Tryd.f10.ntmps Tryd.f10.results.toList (Tryd.f10.body.getD .skip) [.ptr kGrid] [.snap (.int .i64)] (none, ()) post = Fx_grid_Grid_Cells_0   post := by kernel_rfl
theorem Raeq_grid_Grid_Cells_1 (g : Int × (List (Int × Int × Int × Int)) × (List ((Int × Int) × Int)) × (List (List Int)) × (List Int) × (List Nat) × List Nat) (post : Int × Unit → Prop) : fnEval Rax_grid_Grid_Cells nHn Tryd.f10.ntmps Tryd.f10.results.toList (Tryd.f10.body.getD .skip) [.ptr kGrid] [.snap (.int .i64)] ((some g), ()) post = Fx_grid_Grid_Cells_1  g post := by kernel_rfl
def RaF_grid_Grid_Cells (x : KS [.ptr kGrid]) (post : RS [.snap (.int .i64)] → Prop) : Prop := match x with
  | (none, y) => Fx_grid_Grid_Cells_0   post
  | (some g, y) => Fx_grid_Grid_Cells_1  g post
theorem Rah_grid_Grid_Cells : Raq_grid_Grid_Cells.holds Tryd.prog RaG 10 :=
  detP Rax_grid_Grid_Cells_ok Ramixed nHn Raat_grid_Grid_Cells (F := RaF_grid_Grid_Cells) (fun x post => match x with
    | (none, y) => Raeq_grid_Grid_Cells_0  post
    | (some g, y) => Raeq_grid_Grid_Cells_1 g post) fun x h w => match x, h, w with
    | (none, y), h, w => Lx_grid_Grid_Cells_0   w
    | (some g, y), h, w => Lx_grid_Grid_Cells_1  g w
def Rax_grid_Grid_Edges : Cx := ⟨tabOf Ratab, conOf [], RaG⟩
theorem Rax_grid_Grid_Edges_ok : CxOk Tryd.prog Rax_grid_Grid_Edges := ⟨tabB_sound Ratab_ok, fun f c h => by cases h⟩
theorem Raat_grid_Grid_Edges : FnAt Tryd.prog 11 Tryd.f11.ntmps Tryd.f11.results.toList (Tryd.f11.body.getD .skip) := ⟨Tryd.f11, Tryd.func11, rfl, rfl, by simp, by decide⟩
theorem Raeq_grid_Grid_Edges_0  (post : Int × Unit → Prop) : fnEval Rax_grid_Grid_Edges nHn Tryd.f11.ntmps Tryd.f11.results.toList (Tryd.f11.body.getD .skip) [.ptr kGrid] [.snap (.int .i64)] (none, ()) post = Fx_grid_Grid_Edges_0   post := by kernel_rfl
theorem Raeq_grid_Grid_Edges_1 (g : Int × (List (Int × Int × Int × Int)) × (List ((Int × Int) × Int)) × (List (List Int)) × (List Int) × (List Nat) × List Nat) (post : Int × Unit → Prop) : fnEval Rax_grid_Grid_Edges nHn Tryd.f11.ntmps Tryd.f11.results.toList (Tryd.f11.body.getD .skip) [.ptr kGrid] [.snap (.int .i64)] ((some g), ()) post = Fx_grid_Grid_Edges_1  g post := by kernel_rfl
def RaF_grid_Grid_Edges (x : KS [.ptr kGrid]) (post : RS [.snap (.int .i64)] → Prop) : Prop := match x with
  | (none, y) => Fx_grid_Grid_Edges_0   post
  | (some g, y) => Fx_grid_Grid_Edges_1  g post
theorem Rah_grid_Grid_Edges : Raq_grid_Grid_Edges.holds Tryd.prog RaG 11 :=
  detP Rax_grid_Grid_Edges_ok Ramixed nHn Raat_grid_Grid_Edges (F := RaF_grid_Grid_Edges) (fun x post => match x with
    | (none, y) => Raeq_grid_Grid_Edges_0  post
    | (some g, y) => Raeq_grid_Grid_Edges_1 g post) fun x h w => match x, h, w with
    | (none, y), h, w => Lx_grid_Grid_Edges_0   w
    | (some g, y), h, w => Lx_grid_Grid_Edges_1  g w
end Go.Lift

set_option linter.unusedVariables false
set_option linter.unusedSimpArgs false
namespace Go.Lift
def Fx_law17_fit := fun (ty2 : Nat) (l : List Int) (n : Int) (b : Bool) (post : List Int × Unit → Prop) => ∃ (h : (0 : Int) ≤ n ∧ n ≤ n ∧ n * (↑(8 : Nat) : Int) ≤ (281474976710656 :
  Int)), HIs [HObj.row Md.rw ty2 (K.int IntKind.i64) (List.replicate n.toNat (0 : Int))] [HObj.row Md.rw ty2 (K.int IntKind.i64) (List.replicate n.toNat (0 : Int))] ∧ ∃ (I : Int ×
  Unit → List Int × Unit → Prop), ∃ (μ : Int × Unit → List Int × Unit → Nat), I ((0 : Int), ()) (List.replicate n.toNat (0 : Int), ()) ∧ ∀ (x : Int × Unit) (y : List Int × Unit), I
  x y → ∀ (a : Bool), a = decide (x.fst < n) → Br a (∀ (a : Bool), a = decide ((↑l.length : Int) > (0 : Int)) → Br a (∃ (h : (↑l.length : Int) ≠ (0 : Int)), ∃ (h : (0 : Int) ≤
  x.fst.tmod (↑l.length : Int) ∧ x.fst.tmod (↑l.length : Int) < (↑l.length : Int)), ∃ (h : (4503599627370497 : Int) ≠ (0 : Int)), ∃ (h : (0 : Int) ≤ x.fst ∧ x.fst < (↑n.toNat :
  Int)), Br (!b) (∃ (h : (0 : Int) ≤ x.fst ∧ x.fst < (↑n.toNat : Int)), ∀ (a : Bool), a = decide ((y.fst.set ((0 : Nat) + x.fst.toNat) (Int.tmod (l.getD (x.fst.tmod (↑l.length :
  Int)).toNat (0 : Int)) (4503599627370497 : Int))).getD ((0 : Nat) + x.fst.toNat) (0 : Int) < (0 : Int)) → Br a (∃ (h : (0 : Int) ≤ x.fst ∧ x.fst < (↑n.toNat : Int)), ∃ (h : (0 :
  Int) ≤ x.fst ∧ x.fst < (↑n.toNat : Int)), HIs [HObj.row Md.rw ty2 (K.int IntKind.i64) ((y.fst.set ((0 : Nat) + x.fst.toNat) (Int.tmod (l.getD (x.fst.tmod (↑l.length : Int)).toNat
  (0 : Int)) (4503599627370497 : Int))).set ((0 : Nat) + x.fst.toNat) (IntKind.i64.wrap ((0 : Int) - (y.fst.set ((0 : Nat) + x.fst.toNat) (Int.tmod (l.getD (x.fst.tmod (↑l.length :
  Int)).toNat (0 : Int)) (4503599627370497 : Int))).getD ((0 : Nat) + x.fst.toNat) (0 : Int))))] [HObj.row Md.rw ty2 (K.int IntKind.i64) ((y.fst.set ((0 : Nat) + x.fst.toNat)
  (Int.tmod (l.getD (x.fst.tmod (↑l.length : Int)).toNat (0 : Int)) (4503599627370497 : Int))).set ((0 : Nat) + x.fst.toNat) (IntKind.i64.wrap ((0 : Int) - (y.fst.set ((0 : Nat) +
  x.fst.toNat) (Int.tmod (l.getD (x.fst.tmod (↑l.length : Int)).toNat (0 : Int)) (4503599627370497 : Int))).getD ((0 : Nat) + x.fst.toNat) (0 : Int))))] ∧ I (IntKind.i64.wrap (x.fst
  + (1 : Int)), ()) ((y.fst.set ((0 : Nat) + x.fst.toNat) (Int.tmod (l.getD (x.fst.tmod (↑l.length : Int)).toNat (0 : Int)) (4503599627370497 : Int))).set ((0 : Nat) + x.fst.toNat)
  (IntKind.i64.wrap ((0 : Int) - (y.fst.set ((0 : Nat) + x.fst.toNat) (Int.tmod (l.getD (x.fst.tmod (↑l.length : Int)).toNat (0 : Int)) (4503599627370497 : Int))).getD ((0 : Nat) +
  x.fst.toNat) (0 : Int))), ()) ∧ μ (IntKind.i64.wrap (x.fst + (1 : Int)), ()) ((y.fst.set ((0 : Nat) + x.fst.toNat) (Int.tmod (l.getD (x.fst.tmod (↑l.length : Int)).toNat (0 :
  Int)) (4503599627370497 : Int))).set ((0 : Nat) + x.fst.toNat) (IntKind.i64.wrap ((0 : Int) - (y.fst.set ((0 : Nat) + x.fst.toNat) (Int.tmod (l.getD (x.fst.tmod (↑l.length :
  Int)).toNat (0 : Int)) (4503599627370497 : Int))).getD ((0 : Nat) + x.fst.toNat) (0 : Int))), ()) < μ x y) (HIs [HObj.row Md.rw ty2 (K.int IntKind.i64) (y.fst.set ((0 : Nat) +
  x.fst.toNat) (Int.tmod (l.getD (x.fst.tmod (↑l.length : Int)).toNat (0 : Int)) (4503599627370497 : Int)))] [HObj.row Md.rw ty2 (K.int IntKind.i64) (y.fst.set ((0 : Nat) +
  x.fst.toNat) (Int.tmod (l.getD (x.fst.tmod (↑l.length : Int)).toNat (0 : Int)) (4503599627370497 : Int)))] ∧ I (IntKind.i64.wrap (x.fst + (1 : Int)), ()) (y.fst.set ((0 : Nat) +
  x.fst.toNat) (Int.tmod (l.getD (x.fst.tmod (↑l.length : Int)).toNat (0 : Int)) (4503599627370497 : Int)), ()) ∧ μ (IntKind.i64.wrap (x.fst + (1 : Int)), ()) (y.fst.set ((0 : Nat)
  + x.fst.toNat) (Int.tmod (l.getD (x.fst.tmod (↑l.length : Int)).toNat (0 : Int)) (4503599627370497 : Int)), ()) < μ x y)) (HIs [HObj.row Md.rw ty2 (K.int IntKind.i64) (y.fst.set
  ((0 : Nat) + x.fst.toNat) (Int.tmod (l.getD (x.fst.tmod (↑l.length : Int)).toNat (0 : Int)) (4503599627370497 : Int)))] [HObj.row Md.rw ty2 (K.int IntKind.i64) (y.fst.set ((0 :
  Nat) + x.fst.toNat) (Int.tmod (l.getD (x.fst.tmod (↑l.length : Int)).toNat (0 : Int)) (4503599627370497 : Int)))] ∧ I (IntKind.i64.wrap (x.fst + (1 : Int)), ()) (y.fst.set ((0 :
  Nat) + x.fst.toNat) (Int.tmod (l.getD (x.fst.tmod (↑l.length : Int)).toNat (0 : Int)) (4503599627370497 : Int)), ()) ∧ μ (IntKind.i64.wrap (x.fst + (1 : Int)), ()) (y.fst.set ((0
  : Nat) + x.fst.toNat) (Int.tmod (l.getD (x.fst.tmod (↑l.length : Int)).toNat (0 : Int)) (4503599627370497 : Int)), ()) < μ x y)) (((0 : Nat) = (0 : Nat) ∧ n.toNat = y.fst.length)
  ∧ post (y.fst, ()))) (((0 : Nat) = (0 : Nat) ∧ n.toNat = y.fst.length) ∧ post (y.fst, ()))
theorem Lx_law17_fit (ty0 : Nat) (l : List Int) (n : Int) (b : Bool) (h : WFit3 l n b) (w : KS.wf [.slice (.int .i64), .int .i64, .bool] (l, n, b, ())) : Fx_law17_fit ty0 l n b (fun r => r = fitR3 l n b) := by
  have ll : l.length ≤ maxN := w.1.1
  have hm : maxN ≤ 9223372036854775806 := by decide
  obtain ⟨hl, n0, n1⟩ := h
  have fl : (fitL l n 4503599627370496 b).length = n.toNat := by unfold fitL; rw [List.length_map, List.length_range]
  have fin : ∀ k : Nat, (k : Int) ≤ n → (k : Int) = n ∨ l.length = 0 → filled 0 (fitL l n 4503599627370496 b) k = fitL l n 4503599627370496 b := fun k hk h => by
    rcases h with h | h
    · have : k = (fitL l n 4503599627370496 b).length := by omega
      rw [this, filled_all]
    · rw [fit_empty h, filled_rep _ _ _ (by omega)]
  refine ⟨⟨n0, by omega, by omega⟩, rfl, fun x y => ∃ k : Nat, x.1 = k ∧ (k : Int) ≤ n ∧ y.1 = filled 0 (fitL l n 4503599627370496 b) k, fun x _ => n.toNat - x.1.toNat, ⟨0, rfl, n0, by rw [filled_zero, fl]⟩, ?_⟩
  rintro ⟨_, ⟨⟩⟩ ⟨_, ⟨⟩⟩ ⟨k, rfl, hk, rfl⟩
  dsimp only
  have kl : (filled 0 (fitL l n 4503599627370496 b) k).length = n.toNat := by rw [filled_len _ _ _ (by omega), fl]
  rintro _ rfl
  refine Br.intro (fun e => ?_) fun e => ?_
  rotate_left
  · have e : ¬ (k : Int) < n := of_decide_eq_false e
    exact ⟨⟨rfl, kl.symm⟩, by rw [fin k hk (.inl (by omega))]; rfl⟩
  have e : (k : Int) < n := of_decide_eq_true e
  rintro _ rfl
  refine Br.intro (fun z => ?_) fun z => ?_
  rotate_left
  · have z : ¬ (l.length : Int) > 0 := of_decide_eq_false z
    exact ⟨⟨rfl, kl.symm⟩, by rw [fin k hk (.inr (by omega))]; rfl⟩
  have z : (l.length : Int) > 0 := of_decide_eq_true z
  have ht : Int.tmod (k : Int) (l.length : Int) = ((k % l.length : Nat) : Int) := rfl
  have hlt : k % l.length < l.length := Nat.mod_lt _ (by omega)
  rw [ht, Int.toNat_natCast, Nat.zero_add, wi_small (x := (k : Int) + 1) (by omega) (by omega), Int.toNat_natCast]
  obtain ⟨v, hv⟩ : ∃ v, Int.tmod (l.getD (k % l.length) 0) 4503599627370497 = v := ⟨_, rfl⟩
  have vb := tmod_bd (l.getD (k % l.length) 0) 4503599627370497 (by decide)
  rw [hv] at vb
  rw [hv]
  have hg : fitV l 4503599627370496 b k = if !b && decide (v < 0) then -v else v := by
    unfold fitV
    rw [if_neg (by omega), show (4503599627370496 : Int) + 1 = 4503599627370497 from rfl, hv]
  have hset : ∀ u, fitV l 4503599627370496 b k = u → (filled 0 (fitL l n 4503599627370496 b) k).set k u = filled 0 (fitL l n 4503599627370496 b) (k + 1) := fun u hu =>
    filled_set 0 _ k (by omega) (by rw [fit_get l n 4503599627370496 b e, hu])
  have hk1 : ((k : Int) + 1) = ((k + 1 : Nat) : Int) := by omega
  have kk : (0 : Int) ≤ k ∧ (k : Int) < (n.toNat : Int) := ⟨by omega, by omega⟩
  rw [getD_set_self (by omega), List.set_set, wi_small (x := 0 - v) (by omega) (by omega)]
  refine ⟨by omega, ⟨by omega, by omega⟩, by decide, kk, ?_⟩
  refine Br.intro (fun y => ?_) fun y => ?_
  · have y : b = false := by simpa using y
    subst y
    refine ⟨kk, ?_⟩
    rintro _ rfl
    refine Br.intro (fun q => ?_) fun q => ?_
    · have q := of_decide_eq_true q
      rw [Bool.not_false, Bool.true_and, decide_eq_true q] at hg
      exact ⟨kk, kk, rfl, ⟨k + 1, hk1, by omega, hset _ (hg.trans (by show -v = 0 - v; omega))⟩, by omega⟩
    · have q := of_decide_eq_false q
      rw [Bool.not_false, Bool.true_and, decide_eq_false q] at hg
      exact ⟨rfl, ⟨k + 1, hk1, by omega, hset _ hg⟩, by omega⟩
  · have y : b = true := by simpa using y
    subst y
    exact ⟨rfl, ⟨k + 1, hk1, by omega, hset _ hg⟩, by omega⟩
end Go.Lift

set_option linter.unusedVariables false
set_option linter.unusedSimpArgs false
namespace Go.Lift
open Go.Proofs
def Rax_law17_fit : Cx := ⟨tabOf Ratab, conOf [], RaG⟩
theorem Rax_law17_fit_ok : CxOk Tryd.prog Rax_law17_fit := ⟨tabB_sound Ratab_ok, fun f c h => by cases h⟩
theorem Raat_law17_fit : FnAt Tryd.prog 17 Tryd.f17.ntmps Tryd.f17.results.toList (Tryd.f17.body.getD .skip) := ⟨Tryd.f17, Tryd.func17, rfl, rfl, by simp, by decide⟩
theorem Raeq_law17_fit (l : List Int) (n : Int) (b : Bool) (post : (List Int) × Unit → Prop) : fnEval Rax_law17_fit Rahn_law17_fit Tryd.f17.ntmps Tryd.f17.results.toList (Tryd.f17.body.getD .skip) [.slice (.int .i64), .int .i64, .bool] [.own 2 (.int .i64)] (l, n, b, ()) post = Fx_law17_fit 2 l n b post := by kernel_rfl
theorem Rah_law17_fit : Raq_law17_fit.holds Tryd.prog RaG 17 :=
  nam_of_det (detP Rax_law17_fit_ok Ramixed Rahn_law17_fit Raat_law17_fit (F := fun x post => Fx_law17_fit 2 x.1 x.2.1 x.2.2.1 post) (fun x post => Raeq_law17_fit x.1 x.2.1 x.2.2.1 post) fun x h w => Lx_law17_fit 2 x.1 x.2.1 x.2.2.1 h w)
end Go.Lift

set_option linter.unusedVariables false
set_option linter.unusedSimpArgs false
namespace Go.Lift
def Fx_share_good := fun (g : Option (Int × List (Int × Int × Int × Int) × List ((Int × Int) × Int) × List (List Int) × List Int × List Nat × List Nat)) (s f : List Int) (post :
  Bool × Unit → Prop) => ∃ (h : True), ∀ (a : Bool), a = ((↑s.length : Int) != (nCellsR g).fst) → Br a (post (Bool.false, ())) (∃ (h : True), ∀ (a : Bool), a = ((↑f.length : Int) !=
  (nEdgesR g).fst) → Br a (post (Bool.false, ())) (HIs [] [] ∧ ∃ (I : Int × Unit → Unit → Prop), ∃ (μ : Int × Unit → Unit → Nat), I ((0 : Int), ()) () ∧ ∀ (x : Int × Unit) (y :
  Unit), I x y → ∀ (a : Bool), a = decide (x.fst < (↑s.length : Int)) → Br a (∃ (h : (0 : Int) ≤ x.fst ∧ x.fst < (↑s.length : Int)), ∀ (a : Bool), a = decide (s.getD x.fst.toNat (0
  : Int) < (0 : Int)) → Br a (post (Bool.false, ())) (HIs [] [] ∧ I (IntKind.i64.wrap (x.fst + (1 : Int)), ()) () ∧ μ (IntKind.i64.wrap (x.fst + (1 : Int)), ()) () < μ x y)) (HIs []
  [] ∧ ∃ (I : Int × Unit → Unit → Prop), ∃ (μ : Int × Unit → Unit → Nat), I ((0 : Int), ()) () ∧ ∀ (x : Int × Unit) (y : Unit), I x y → ∀ (a : Bool), a = decide (x.fst < (↑f.length
  : Int)) → Br a (∃ (h : (0 : Int) ≤ x.fst ∧ x.fst < (↑f.length : Int)), ∀ (a : Bool), a = decide (f.getD x.fst.toNat (0 : Int) < (-4503599627370496 : Int)) → Br a (post
  (Bool.false, ())) (∀ (a : Bool), a = decide (f.getD x.fst.toNat (0 : Int) > (4503599627370496 : Int)) → Br a (post (Bool.false, ())) (HIs [] [] ∧ I (IntKind.i64.wrap (x.fst + (1 :
  Int)), ()) () ∧ μ (IntKind.i64.wrap (x.fst + (1 : Int)), ()) () < μ x y))) (post (Bool.true, ())))))
theorem Lx_share_good (g : Option (Int × (List (Int × Int × Int × Int)) × (List ((Int × Int) × Int)) × (List (List Int)) × (List Int) × (List Nat) × List Nat)) (s : List Int) (f : List Int) (h : WGood g s f) (w : KS.wf [.ptr kGrid, .slice (.int .i64), .slice (.int .i64)] (g, s, f, ())) : Fx_share_good  g s f (fun r => r = goodGR g s f) := by
  have ls : s.length ≤ maxN := w.2.1.1
  have lf : f.length ≤ maxN := w.2.2.1.1
  have hm : maxN ≤ 9223372036854775806 := by decide
  have key : goodGR g s f = (decide ((s.length : Int) = nCells g) && decide ((f.length : Int) = nEdges g) && s.all (fun x => decide (0 ≤ x)) && f.all FlowOk, ()) := rfl
  refine ⟨trivial, ?_⟩
  rintro _ rfl
  refine Br.intro (fun e => ?_) fun e => ?_
  · have e : (s.length : Int) ≠ nCells g := bne_iff_ne.1 e
    rw [key, decide_eq_false e]; rfl
  have e : (s.length : Int) = nCells g := by
    have e : ((s.length : Int) != nCells g) = false := e
    simpa using e
  rw [decide_eq_true e, Bool.true_and] at key
  refine ⟨trivial, ?_⟩
  rintro _ rfl
  refine Br.intro (fun e2 => ?_) fun e2 => ?_
  · have e2 : (f.length : Int) ≠ nEdges g := bne_iff_ne.1 e2
    rw [key, decide_eq_false e2]; rfl
  have e2 : (f.length : Int) = nEdges g := by
    have e2 : ((f.length : Int) != nEdges g) = false := e2
    simpa using e2
  rw [decide_eq_true e2, Bool.true_and] at key
  refine ⟨rfl, fun x _ => ∃ k : Nat, x.1 = k ∧ k ≤ s.length ∧ goodGR g s f = ((s.drop k).all (fun x => decide (0 ≤ x)) && f.all FlowOk, ()), fun x _ => s.length - x.1.toNat, ⟨0, rfl, by omega, key⟩, ?_⟩
  rintro ⟨_, ⟨⟩⟩ _ ⟨k, rfl, hk, hi⟩
  dsimp only
  rintro _ rfl
  refine Br.intro (fun g1 => ?_) fun g1 => ?_
  · have g1 : k < s.length := by have g1 : (k : Int) < s.length := of_decide_eq_true g1; omega
    rw [allStep g1] at hi
    refine ⟨⟨by omega, by omega⟩, ?_⟩
    rw [Int.toNat_natCast, wi_succ g1 (by omega)]
    rintro _ rfl
    refine Br.intro (fun z => ?_) fun z => ?_
    · have z := of_decide_eq_true z
      rw [hi, decide_eq_false (by omega)]; rfl
    · have z := of_decide_eq_false z
      rw [decide_eq_true (p := 0 ≤ s.getD k 0) (by omega), Bool.true_and] at hi
      exact ⟨rfl, ⟨k + 1, rfl, by omega, hi⟩, by omega⟩
  have g1 : k = s.length := by have g1 : ¬ (k : Int) < s.length := of_decide_eq_false g1; omega
  subst g1
  rw [List.drop_length] at hi
  have hi : goodGR g s f = (f.all FlowOk, ()) := hi
  refine ⟨rfl, fun x _ => ∃ k : Nat, x.1 = k ∧ k ≤ f.length ∧ goodGR g s f = ((f.drop k).all FlowOk, ()), fun x _ => f.length - x.1.toNat, ⟨0, rfl, by omega, hi⟩, ?_⟩
  clear hi
  rintro ⟨_, ⟨⟩⟩ _ ⟨k, rfl, hk, hi⟩
  dsimp only
  rintro _ rfl
  refine Br.intro (fun g2 => ?_) fun g2 => ?_
  · have g2 : k < f.length := by have g2 : (k : Int) < f.length := of_decide_eq_true g2; omega
    rw [allStep g2] at hi
    refine ⟨⟨by omega, by omega⟩, ?_⟩
    rw [Int.toNat_natCast, wi_succ g2 (by omega)]
    rintro _ rfl
    refine Br.intro (fun z => ?_) fun z => ?_
    · have z := of_decide_eq_true z
      rw [hi, show FlowOk (f.getD k 0) = false by unfold FlowOk; rw [decide_eq_false (p := -4503599627370496 ≤ f.getD k 0) (by omega)]; rfl]; rfl
    have z := of_decide_eq_false z
    rintro _ rfl
    refine Br.intro (fun y => ?_) fun y => ?_
    · have y := of_decide_eq_true y
      rw [hi, show FlowOk (f.getD k 0) = false by unfold FlowOk; rw [decide_eq_false (p := f.getD k 0 ≤ 4503599627370496) (by omega), Bool.and_false]]; rfl
    · have y := of_decide_eq_false y
      rw [show FlowOk (f.getD k 0) = true from flowOk_iff.2 ⟨by omega, by omega⟩, Bool.true_and] at hi
      exact ⟨rfl, ⟨k + 1, rfl, by omega, hi⟩, by omega⟩
  have g2 : k = f.length := by have g2 : ¬ (k : Int) < f.length := of_decide_eq_false g2; omega
  subst g2
  rw [List.drop_length] at hi
  rw [hi]; rfl
def Fx_share_All := fun (ty2 ty72 ty73 : Nat) (g : Option (Int × List (Int × Int × Int × Int) × List ((Int × Int) × Int) × List (List Int) × List Int × List Nat × List Nat)) (s f :
  List Int) (post : List Int × Int × Unit → Prop) => Br g.isNone (post ([], (2 : Int), ())) (∃ (h : WGood g s f), ∀ (a : Bool), a = (goodGR g s f).fst → Br (!a) (post ([], (1 :
  Int), ())) (∃ (h : (0 : Int) ≤ (↑f.length : Int) ∧ (↑f.length : Int) ≤ (↑f.length : Int) ∧ (↑f.length : Int) * (↑(8 : Nat) : Int) ≤ (281474976710656 : Int)), HIs [HObj.row Md.rw
  ty2 (K.int IntKind.i64) (List.replicate f.length (0 : Int))] [HObj.row Md.rw ty2 (K.int IntKind.i64) (List.replicate f.length (0 : Int))] ∧ ∃ (I : Int × Unit → List Int × Unit →
  Prop), ∃ (μ : Int × Unit → List Int × Unit → Nat), I ((0 : Int), ()) (List.replicate f.length (0 : Int), ()) ∧ ∀ (x : Int × Unit) (y : List Int × Unit), I x y → ∀ (a : Bool), a =
  decide (x.fst < (↑s.length : Int)) → Br a (∃ (h : (0 : Int) ≤ x.fst ∧ x.fst < (↑s.length : Int)), HIs [HObj.row Md.rw ty2 (K.int IntKind.i64) y.fst, HObj.row Md.rw ty72 (K.int
  IntKind.i64) (List.replicate (4 : Nat) (0 : Int)), HObj.row Md.rw ty73 (K.int IntKind.i64) (List.replicate (4 : Nat) (0 : Int)), HObj.row Md.rw ty73 (K.int IntKind.i64)
  (List.replicate (4 : Nat) (0 : Int))] [HObj.row Md.rw ty2 (K.int IntKind.i64) y.fst, HObj.row Md.rw ty72 (K.int IntKind.i64) (List.replicate (4 : Nat) (0 : Int)), HObj.row Md.rw
  ty73 (K.int IntKind.i64) (List.replicate (4 : Nat) (0 : Int)), HObj.row Md.rw ty73 (K.int IntKind.i64) (List.replicate (4 : Nat) (0 : Int))] ∧ ∃ (I_1 : Int × Unit → List Int ×
  List Int × List Int × Unit → Prop), ∃ (μ_1 : Int × Unit → List Int × List Int × List Int × Unit → Nat), I_1 ((0 : Int), ()) (List.replicate (4 : Nat) (0 : Int), List.replicate (4
  : Nat) (0 : Int), List.replicate (4 : Nat) (0 : Int), ()) ∧ ∀ (x_3 : Int × Unit) (y_1 : List Int × List Int × List Int × Unit), I_1 x_3 y_1 → ∀ (a : Bool), a = decide (x_3.fst <
  (4 : Int)) → Br a (∃ (h : WNet g x.fst x_3.fst), ∀ (a : Int × Int × Unit), a = nAroundR g x.fst x_3.fst → ∃ (h : (0 : Int) ≤ x_3.fst ∧ x_3.fst < (↑(4 : Nat) : Int) ∧ (4 : Nat) ≤
  y_1.snd.fst.length), ∃ (h : (0 : Int) ≤ x_3.fst ∧ x_3.fst < (↑(4 : Nat) : Int) ∧ (4 : Nat) ≤ y_1.snd.snd.fst.length), ∃ (h : (0 : Int) ≤ a.fst ∧ a.fst < (↑f.length : Int)), ∃ (h :
  (0 : Int) ≤ x_3.fst ∧ x_3.fst < (↑(4 : Nat) : Int) ∧ (4 : Nat) ≤ y_1.fst.length), HIs [HObj.row Md.rw ty2 (K.int IntKind.i64) y.fst, HObj.row Md.rw ty72 (K.int IntKind.i64)
  (y_1.fst.set x_3.fst.toNat (imax (0 : Int) (IntKind.i64.wrap (f.getD a.fst.toNat (0 : Int) * a.snd.fst)))), HObj.row Md.rw ty73 (K.int IntKind.i64) (y_1.snd.fst.set x_3.fst.toNat
  a.fst), HObj.row Md.rw ty73 (K.int IntKind.i64) (y_1.snd.snd.fst.set x_3.fst.toNat a.snd.fst)] [HObj.row Md.rw ty2 (K.int IntKind.i64) y.fst, HObj.row Md.rw ty72 (K.int
  IntKind.i64) (y_1.fst.set x_3.fst.toNat (imax (0 : Int) (IntKind.i64.wrap (f.getD a.fst.toNat (0 : Int) * a.snd.fst)))), HObj.row Md.rw ty73 (K.int IntKind.i64) (y_1.snd.fst.set
  x_3.fst.toNat a.fst), HObj.row Md.rw ty73 (K.int IntKind.i64) (y_1.snd.snd.fst.set x_3.fst.toNat a.snd.fst)] ∧ I_1 (IntKind.i64.wrap (x_3.fst + (1 : Int)), ()) (y_1.fst.set
  x_3.fst.toNat (imax (0 : Int) (IntKind.i64.wrap (f.getD a.fst.toNat (0 : Int) * a.snd.fst))), y_1.snd.fst.set x_3.fst.toNat a.fst, y_1.snd.snd.fst.set x_3.fst.toNat a.snd.fst, ())
  ∧ μ_1 (IntKind.i64.wrap (x_3.fst + (1 : Int)), ()) (y_1.fst.set x_3.fst.toNat (imax (0 : Int) (IntKind.i64.wrap (f.getD a.fst.toNat (0 : Int) * a.snd.fst))), y_1.snd.fst.set
  x_3.fst.toNat a.fst, y_1.snd.snd.fst.set x_3.fst.toNat a.snd.fst, ()) < μ_1 x_3 y_1) (∃ (h : (0 : Int) ≤ (0 : Int) ∧ (0 : Int) ≤ (↑(4 : Nat) : Int) ∧ (↑(4 : Nat) : Int) ≤ (↑(4 :
  Nat) : Int) ∧ (4 : Nat) = y_1.fst.length), ∃ (h : WCu (s.getD x.fst.toNat (0 : Int)) (List.take ((↑(4 : Nat) : Int) - (0 : Int)).toNat (List.drop (Int.toNat (0 : Int)) y_1.fst))),
  ∀ (a : Bool), a = ((cuR (s.getD x.fst.toNat (0 : Int)) (List.take ((↑(4 : Nat) : Int) - (0 : Int)).toNat (List.drop (Int.toNat (0 : Int)) y_1.fst))).snd.fst != (0 : Int)) → Br a
  (post ([], (cuR (s.getD x.fst.toNat (0 : Int)) (List.take ((↑(4 : Nat) : Int) - (0 : Int)).toNat (List.drop (Int.toNat (0 : Int)) y_1.fst))).snd.fst, ())) (HIs [HObj.row Md.rw ty2
  (K.int IntKind.i64) y.fst, HObj.row Md.rw ty72 (K.int IntKind.i64) y_1.fst, HObj.row Md.rw ty73 (K.int IntKind.i64) y_1.snd.fst, HObj.row Md.rw ty73 (K.int IntKind.i64)
  y_1.snd.snd.fst, HObj.row Md.rw ty2 (K.int IntKind.i64) (cuR (s.getD x.fst.toNat (0 : Int)) (List.take ((↑(4 : Nat) : Int) - (0 : Int)).toNat (List.drop (Int.toNat (0 : Int))
  y_1.fst))).fst] [HObj.row Md.rw ty2 (K.int IntKind.i64) y.fst, HObj.row Md.rw ty72 (K.int IntKind.i64) y_1.fst, HObj.row Md.rw ty73 (K.int IntKind.i64) y_1.snd.fst, HObj.row Md.rw
  ty73 (K.int IntKind.i64) y_1.snd.snd.fst, HObj.row Md.rw ty2 (K.int IntKind.i64) (cuR (s.getD x.fst.toNat (0 : Int)) (List.take ((↑(4 : Nat) : Int) - (0 : Int)).toNat (List.drop
  (Int.toNat (0 : Int)) y_1.fst))).fst] ∧ ∃ (I_2 : Int × Unit → List Int × Unit → Prop), ∃ (μ_2 : Int × Unit → List Int × Unit → Nat), I_2 ((0 : Int), ()) (y.fst, ()) ∧ ∀ (x_7 : Int
  × Unit) (y_2 : List Int × Unit), I_2 x_7 y_2 → ∀ (a : Bool), a = decide (x_7.fst < (4 : Int)) → Br a (∃ (h : (0 : Int) ≤ x_7.fst ∧ x_7.fst < (↑(4 : Nat) : Int) ∧ (4 : Nat) ≤
  y_1.fst.length), ∀ (a : Bool), a = decide (y_1.fst.getD x_7.fst.toNat (0 : Int) > (0 : Int)) → Br a (∃ (h : (0 : Int) ≤ x_7.fst ∧ x_7.fst < (↑(4 : Nat) : Int) ∧ (4 : Nat) ≤
  y_1.snd.fst.length), ∃ (h : (0 : Int) ≤ x_7.fst ∧ x_7.fst < (↑(cuR (s.getD x.fst.toNat (0 : Int)) (List.take ((↑(4 : Nat) : Int) - (0 : Int)).toNat (List.drop (Int.toNat (0 :
  Int)) y_1.fst))).fst.length : Int)), ∃ (h : (0 : Int) ≤ x_7.fst ∧ x_7.fst < (↑(4 : Nat) : Int) ∧ (4 : Nat) ≤ y_1.snd.snd.fst.length), ∃ (h : (0 : Int) ≤ y_1.snd.fst.getD
  x_7.fst.toNat (0 : Int) ∧ y_1.snd.fst.getD x_7.fst.toNat (0 : Int) < (↑f.length : Int)), HIs [HObj.row Md.rw ty2 (K.int IntKind.i64) (y_2.fst.set ((0 : Nat) + Int.toNat
  (y_1.snd.fst.getD x_7.fst.toNat (0 : Int))) (IntKind.i64.wrap ((cuR (s.getD x.fst.toNat (0 : Int)) (List.take ((↑(4 : Nat) : Int) - (0 : Int)).toNat (List.drop (Int.toNat (0 :
  Int)) y_1.fst))).fst.getD ((0 : Nat) + x_7.fst.toNat) (0 : Int) * y_1.snd.snd.fst.getD x_7.fst.toNat (0 : Int)))), HObj.row Md.rw ty72 (K.int IntKind.i64) y_1.fst, HObj.row Md.rw
  ty73 (K.int IntKind.i64) y_1.snd.fst, HObj.row Md.rw ty73 (K.int IntKind.i64) y_1.snd.snd.fst, HObj.row Md.rw ty2 (K.int IntKind.i64) (cuR (s.getD x.fst.toNat (0 : Int))
  (List.take ((↑(4 : Nat) : Int) - (0 : Int)).toNat (List.drop (Int.toNat (0 : Int)) y_1.fst))).fst] [HObj.row Md.rw ty2 (K.int IntKind.i64) (y_2.fst.set ((0 : Nat) + Int.toNat
  (y_1.snd.fst.getD x_7.fst.toNat (0 : Int))) (IntKind.i64.wrap ((cuR (s.getD x.fst.toNat (0 : Int)) (List.take ((↑(4 : Nat) : Int) - (0 : Int)).toNat (List.drop (Int.toNat (0 :
  Int)) y_1.fst))).fst.getD ((0 : Nat) + x_7.fst.toNat) (0 : Int) * y_1.snd.snd.fst.getD x_7.fst.toNat (0 : Int)))), HObj.row Md.rw ty72 (K.int IntKind.i64) y_1.fst, HObj.row Md.rw
  ty73 (K.int IntKind.i64) y_1.snd.fst, HObj.row Md.rw ty73 (K.int IntKind.i64) y_1.snd.snd.fst, HObj.row Md.rw ty2 (K.int IntKind.i64) (cuR (s.getD x.fst.toNat (0 : Int))
  (List.take ((↑(4 : Nat) : Int) - (0 : Int)).toNat (List.drop (Int.toNat (0 : Int)) y_1.fst))).fst] ∧ I_2 (IntKind.i64.wrap (x_7.fst + (1 : Int)), ()) (y_2.fst.set ((0 : Nat) +
  Int.toNat (y_1.snd.fst.getD x_7.fst.toNat (0 : Int))) (IntKind.i64.wrap ((cuR (s.getD x.fst.toNat (0 : Int)) (List.take ((↑(4 : Nat) : Int) - (0 : Int)).toNat (List.drop
  (Int.toNat (0 : Int)) y_1.fst))).fst.getD ((0 : Nat) + x_7.fst.toNat) (0 : Int) * y_1.snd.snd.fst.getD x_7.fst.toNat (0 : Int))), ()) ∧ μ_2 (IntKind.i64.wrap (x_7.fst + (1 :
  Int)), ()) (y_2.fst.set ((0 : Nat) + Int.toNat (y_1.snd.fst.getD x_7.fst.toNat (0 : Int))) (IntKind.i64.wrap ((cuR (s.getD x.fst.toNat (0 : Int)) (List.take ((↑(4 : Nat) : Int) -
  (0 : Int)).toNat (List.drop (Int.toNat (0 : Int)) y_1.fst))).fst.getD ((0 : Nat) + x_7.fst.toNat) (0 : Int) * y_1.snd.snd.fst.getD x_7.fst.toNat (0 : Int))), ()) < μ_2 x_7 y_2)
  (HIs [HObj.row Md.rw ty2 (K.int IntKind.i64) y_2.fst, HObj.row Md.rw ty72 (K.int IntKind.i64) y_1.fst, HObj.row Md.rw ty73 (K.int IntKind.i64) y_1.snd.fst, HObj.row Md.rw ty73
  (K.int IntKind.i64) y_1.snd.snd.fst, HObj.row Md.rw ty2 (K.int IntKind.i64) (cuR (s.getD x.fst.toNat (0 : Int)) (List.take ((↑(4 : Nat) : Int) - (0 : Int)).toNat (List.drop
  (Int.toNat (0 : Int)) y_1.fst))).fst] [HObj.row Md.rw ty2 (K.int IntKind.i64) y_2.fst, HObj.row Md.rw ty72 (K.int IntKind.i64) y_1.fst, HObj.row Md.rw ty73 (K.int IntKind.i64)
  y_1.snd.fst, HObj.row Md.rw ty73 (K.int IntKind.i64) y_1.snd.snd.fst, HObj.row Md.rw ty2 (K.int IntKind.i64) (cuR (s.getD x.fst.toNat (0 : Int)) (List.take ((↑(4 : Nat) : Int) -
  (0 : Int)).toNat (List.drop (Int.toNat (0 : Int)) y_1.fst))).fst] ∧ I_2 (IntKind.i64.wrap (x_7.fst + (1 : Int)), ()) (y_2.fst, ()) ∧ μ_2 (IntKind.i64.wrap (x_7.fst + (1 : Int)),
  ()) (y_2.fst, ()) < μ_2 x_7 y_2)) (HIs [HObj.row Md.rw ty2 (K.int IntKind.i64) y_2.fst] [HObj.row Md.rw ty2 (K.int IntKind.i64) y_2.fst] ∧ I (IntKind.i64.wrap (x.fst + (1 : Int)),
  ()) (y_2.fst, ()) ∧ μ (IntKind.i64.wrap (x.fst + (1 : Int)), ()) (y_2.fst, ()) < μ x y)))) (((0 : Nat) = (0 : Nat) ∧ f.length = y.fst.length) ∧ post (y.fst, (0 : Int), ()))))
theorem Lx_share_All (ty0 ty1 ty2 : Nat) (g : Option (Int × (List (Int × Int × Int × Int)) × (List ((Int × Int) × Int)) × (List (List Int)) × (List Int) × (List Nat) × List Nat)) (s : List Int) (f : List Int) (h : WAll g s f) (w : KS.wf [.ptr kGrid, .slice (.int .i64), .slice (.int .i64)] (g, s, f, ())) : Fx_share_All ty0 ty1 ty2 g s f (fun r => r = sAllR g s f) := by
  obtain ⟨hg, hs, hf0⟩ := h
  cases g with
  | none => exact Br.intro (fun _ => rfl) fun e => by cases e
  | some g =>
  obtain ⟨n, gn, rfl⟩ := netP_some hg
  refine Br.intro (fun e => by cases e) fun _ => ?_
  refine ⟨⟨hs, hf0⟩, ?_⟩
  rintro _ rfl
  have A := arOk_n n
  have hAr : ∀ c o, nAroundR (some (netG n)) c o = ((nAround (some (netG n)) c o).1, (nAround (some (netG n)) c o).2, ()) := fun _ _ => rfl
  have hres : ∀ b, goodN (nCells (some (netG n))) (nEdges (some (netG n))) s f = b → sAllR (some (netG n)) s f = if b then (allP (nAround (some (netG n))) f (cutG (nAround (some (netG n))) s f) s.length, 0, ()) else ([], 1, ()) := by
    rintro _ rfl
    unfold sAllR shareA
    rw [show (some (netG n)).isNone = false from rfl, if_neg (by decide)]
    split <;> rfl
  refine Br.intro (fun e => ?_) fun e => ?_
  · have e : goodN (nCells (some (netG n))) (nEdges (some (netG n))) s f = false := by
      have e : (!goodN (nCells (some (netG n))) (nEdges (some (netG n))) s f) = true := e
      simpa using e
    rw [hres _ e]; rfl
  have e : goodN (nCells (some (netG n))) (nEdges (some (netG n))) s f = true := by
    have e : (!goodN (nCells (some (netG n))) (nEdges (some (netG n))) s f) = false := e
    simpa using e
  rw [hres _ e, if_pos rfl]
  obtain ⟨h1, h2, h3, h4⟩ := good_net e
  clear hres e
  have cr := cells_rng n
  have hE := (netN_ok n (cellsI n).toNat (by omega)).2
  have hE : (netE n).1.length ≤ 4 * (cellsI n).toNat := hE
  generalize nAround (some (netG n)) = ar at *
  obtain ⟨gv, hgv⟩ : ∃ gv, cutG ar s f = gv := ⟨_, rfl⟩
  rw [hgv]
  refine ⟨⟨by omega, by omega, by omega⟩, rfl, fun x y => ∃ k : Nat, x.1 = k ∧ k ≤ s.length ∧ y.1 = allP ar f gv k, fun x _ => s.length - x.1.toNat, ⟨0, rfl, by omega, rfl⟩, ?_⟩
  rintro ⟨_, ⟨⟩⟩ ⟨_, ⟨⟩⟩ ⟨k, rfl, hk, rfl⟩
  dsimp only
  rintro _ rfl
  refine Br.intro (fun d => ?_) fun d => ?_
  rotate_left
  · have d : k = s.length := by have d : ¬ (k : Int) < s.length := of_decide_eq_false d; omega
    have hlen : (allP ar f gv k).length = f.length := (allP_laid A h4 h2 k (by omega)).1.trans h2.symm
    exact ⟨⟨rfl, hlen.symm⟩, by rw [d]⟩
  have d : k < s.length := by have d : (k : Int) < s.length := of_decide_eq_true d; omega
  have hp : placeOk n (k : Int) = true := place_nat (by omega)
  refine ⟨⟨by omega, by omega⟩, rfl, fun x y => ∃ j : Nat, x.1 = j ∧ j ≤ 4 ∧ y.1 = fill4 j (outN ar f k) ∧ y.2.1 = fill4 j (fun o => (ar k o).1) ∧ y.2.2.1 = fill4 j (fun o => (ar k o).2), fun x _ => 4 - x.1.toNat, ⟨0, rfl, by omega, rfl, rfl, rfl⟩, ?_⟩
  rintro ⟨_, ⟨⟩⟩ ⟨_, _, _, ⟨⟩⟩ ⟨j, rfl, hj, rfl, rfl, rfl⟩
  dsimp only
  rintro _ rfl
  refine Br.intro (fun e1 => ?_) fun e1 => ?_
  · have e1 : j < 4 := by have e1 : (j : Int) < 4 := of_decide_eq_true e1; omega
    refine ⟨⟨hg, ⟨by omega, by omega⟩, by omega, by omega⟩, ?_⟩
    rintro _ rfl
    obtain ⟨s1, s2, s3, s4, s5⟩ := side_facts A h4 h2 (c := k) (o := j) (besideOk_iff.2 ⟨hp, by omega, by omega⟩)
    rw [hAr]
    dsimp only
    rw [wi_small (by omega) (by omega), wi_succ e1 (by omega), Int.toNat_natCast]
    exact ⟨⟨by omega, by show (j : Int) < 4; omega, Nat.le_refl 4⟩, ⟨by omega, by show (j : Int) < 4; omega, Nat.le_refl 4⟩, ⟨s1, s2⟩, ⟨by omega, by show (j : Int) < 4; omega, Nat.le_refl 4⟩, rfl, ⟨j + 1, rfl, by omega, fill4_set e1 (outN ar f k), fill4_set e1 (fun o => (ar k o).1), fill4_set e1 (fun o => (ar k o).2)⟩, by omega⟩
  have e1 : j = 4 := by have e1 : ¬ (j : Int) < 4 := of_decide_eq_false e1; omega
  subst e1
  have f4 : ∀ g, fill4 4 g = four g := fun g => rfl
  rw [f4, f4, f4]
  have hw0 : 0 ≤ s.getD k 0 := h3 _ (getD_mem d 0)
  obtain ⟨c1, c2, c3⟩ := cut_facts A h4 (w := s.getD k 0) hw0 hp
  have hc : cuR (s.getD k 0) (four (outN ar f k)) = (cutOut (s.getD k 0) (outsN ar f k), 0, ()) := by
    show ((cutF (s.getD k 0) (outsN ar f k)).1, (cutF (s.getD k 0) (outsN ar f k)).2, ()) = _
    rw [c1]
  have hgk : gv k = cutOut (s.getD k 0) (outsN ar f k) := by rw [← hgv]; exact congrArg Prod.fst c1
  obtain ⟨o1, o2, o3⟩ := outs_ok (outs_fine A h4 hp)
  rw [four_take, Int.toNat_natCast, hc]
  refine ⟨⟨by decide, by decide, by decide, rfl⟩, ⟨hs _ (getD_mem d 0), o2, o3⟩, ?_⟩
  rintro _ rfl
  refine Br.intro (fun q => by simp at q) fun _ => ?_
  refine ⟨rfl, fun x y => ∃ j : Nat, x.1 = j ∧ j ≤ 4 ∧ y.1 = putsP ar f (gv k) k (allP ar f gv k) j, fun x _ => 4 - x.1.toNat, ⟨0, rfl, by omega, rfl⟩, ?_⟩
  rintro ⟨_, ⟨⟩⟩ ⟨_, ⟨⟩⟩ ⟨i, rfl, hi, rfl⟩
  dsimp only
  rintro _ rfl
  refine Br.intro (fun e2 => ?_) fun e2 => ?_
  rotate_left
  · have e2 : i = 4 := by have e2 : ¬ (i : Int) < 4 := of_decide_eq_false e2; omega
    subst e2
    rw [wi_succ d (by omega)]
    exact ⟨rfl, ⟨k + 1, rfl, by omega, rfl⟩, by omega⟩
  have e2 : i < 4 := by have e2 : (i : Int) < 4 := of_decide_eq_true e2; omega
  obtain ⟨s1, s2, s3, s4, s5⟩ := side_facts A h4 h2 (c := k) (o := i) (besideOk_iff.2 ⟨hp, by omega, by omega⟩)
  obtain ⟨g1, g2⟩ := c3 i e2
  have g3 := (outs_fine A h4 hp i e2).2
  rw [Int.toNat_natCast, four_get e2, four_get e2, four_get e2, Nat.zero_add, wi_succ e2 (by omega)]
  have hst : putsP ar f (gv k) k (allP ar f gv k) (i + 1) = putP ar f (gv k) k i (putsP ar f (gv k) k (allP ar f gv k) i) := rfl
  refine ⟨⟨by omega, by show (i : Int) < 4; omega, Nat.le_refl 4⟩, ?_⟩
  rintro _ rfl
  refine Br.intro (fun z => ?_) fun z => ?_
  · have z : 0 < outN ar f k i := of_decide_eq_true z
    have hm2 : IntKind.i64.wrap ((cutOut (s.getD k 0) (outsN ar f k)).getD i 0 * (ar k i).2) = (cutOut (s.getD k 0) (outsN ar f k)).getD i 0 * (ar k i).2 := by
      rcases s3 with q | q <;> rw [q] <;> exact wi_small (by omega) (by omega)
    rw [Nat.zero_add, hm2]
    refine ⟨⟨by omega, by show (i : Int) < 4; omega, Nat.le_refl 4⟩, ⟨by omega, by rw [c2]; omega⟩, ⟨by omega, by show (i : Int) < 4; omega, Nat.le_refl 4⟩, ⟨s1, s2⟩, rfl, ⟨i + 1, rfl, by omega, ?_⟩, by omega⟩
    rw [hst]; unfold putP; rw [if_pos z, hgk, Int.toNat_natCast]
  · have z : ¬ 0 < outN ar f k i := of_decide_eq_false z
    exact ⟨rfl, ⟨i + 1, rfl, by omega, by rw [hst]; unfold putP; rw [if_neg z]⟩, by omega⟩
end Go.Lift

set_option linter.unusedVariables false
set_option linter.unusedSimpArgs false
namespace Go.Lift
def Fx_grid_Grid_Around_0 := fun (c o : Int) (post : Int × Int × Unit → Prop) => post ((0 : Int), (0 : Int), ())
theorem Lx_grid_Grid_Around_0 (c : Int) (o : Int) (h : WNet none c o) (w : KS.wf [.ptr kGrid, .int .i64, .int .i64] (none, c, o, ())) : Fx_grid_Grid_Around_0  c o (fun r => r = nAroundR none c o) := by
  exact rfl
def Fx_grid_Grid_Around_1 := fun (g : Int × List (Int × Int × Int × Int) × List ((Int × Int) × Int) × List (List Int) × List Int × List Nat × List Nat) (c o : Int) (post : Int × Int
  × Unit → Prop) => ∃ (h : Option.some g ≠ Option.none), Br (!(mget (c, o) g.snd.snd.fst).isSome) (post ((0 : Int), (0 : Int), ())) (∃ (h : Option.some g ≠ Option.none), ∃ (h : (0 :
  Int) ≤ (mget (c, o) g.snd.snd.fst).getD (0 : Int) ∧ (mget (c, o) g.snd.snd.fst).getD (0 : Int) < (↑g.snd.fst.length : Int)), ∀ (a : Bool), a = ((g.snd.fst.getD ((mget (c, o)
  g.snd.snd.fst).getD (0 : Int)).toNat ((K.int IntKind.i64).pair ((K.int IntKind.i64).pair ((K.int IntKind.i64).pair (K.int IntKind.i64)))).dflt).fst == c) → Br a (post ((mget (c,
  o) g.snd.snd.fst).getD (0 : Int), (1 : Int), ())) (post ((mget (c, o) g.snd.snd.fst).getD (0 : Int), (-1 : Int), ())))
theorem Lx_grid_Grid_Around_1 (g : Int × (List (Int × Int × Int × Int)) × (List ((Int × Int) × Int)) × (List (List Int)) × (List Int) × (List Nat) × List Nat) (c : Int) (o : Int) (h : WNet (some g) c o) (w : KS.wf [.ptr kGrid, .int .i64, .int .i64] ((some g), c, o, ())) : Fx_grid_Grid_Around_1  g c o (fun r => r = nAroundR (some g) c o) := by
  obtain ⟨hg, hc, ho⟩ := h
  obtain ⟨n, gn, hgn⟩ : ∃ n, goodC n = true ∧ g = netG n := by
    rcases hg with hg | ⟨n, gn, hg⟩
    · cases hg
    · exact ⟨n, gn, Option.some.inj hg⟩
  subst hgn
  refine ⟨by simp, ?_⟩
  have hr : nAroundR (some (netG n)) c o = match mget (c, o) (netE n).2 with
      | none => ((0 : Int), (0 : Int), ())
      | some e => if ((netE n).1.getD e.toNat dEd).1 = c then (e, (1 : Int), ()) else (e, (-1 : Int), ()) := by
    unfold nAroundR nAround netG
    dsimp only
    cases mget (c, o) (netE n).2 with
    | none => rfl
    | some e => dsimp only; split <;> rfl
  rw [hr]
  by_cases ok : besideOk n c o = true
  · obtain ⟨k, hk, k1, _, _⟩ := net_side ok
    have k1' : mget (c, o) (netG n).2.2.1 = some (k : Int) := k1
    rw [k1', k1]
    refine Br.intro (fun q => by cases q) fun _ => ?_
    refine ⟨by simp, ⟨by show (0 : Int) ≤ k; omega, by show (k : Int) < ((netE n).1.length : Nat); omega⟩, ?_⟩
    intro a ha
    have ha : a = decide (((netE n).1.getD (k : Int).toNat dEd).1 = c) := ha
    rw [ha]
    dsimp only
    refine Br.intro (fun q => ?_) fun q => ?_
    · rw [if_pos (of_decide_eq_true q)]; rfl
    · rw [if_neg (of_decide_eq_false q)]; rfl
  · have k1 := net_none ok
    have k1' : mget (c, o) (netG n).2.2.1 = none := k1
    rw [k1', k1]
    exact Br.intro (fun _ => rfl) fun q => by cases q
end Go.Lift

set_option linter.unusedVariables false
set_option linter.unusedSimpArgs false
namespace Go.Lift
open Go.Proofs
def Rax_grid_Grid_Around : Cx := ⟨tabOf Ratab, conOf [], RaG⟩
theorem Rax_grid_Grid_Around_ok : CxOk Tryd.prog Rax_grid_Grid_Around := ⟨tabB_sound Ratab_ok, fun f c h => by cases h⟩
theorem Raat_grid_Grid_Around : FnAt Tryd.prog 13 Tryd.f13.ntmps Tryd.f13.results.toList (Tryd.f13.body.getD .skip) := ⟨Tryd.f13, Tryd.func13, rfl, rfl, by simp, by decide⟩
theorem Raeq_grid_Grid_Around_0 (c : Int) (o : Int) (post : Int × Int × Unit → Prop) : fnEval Rax_grid_Grid_Around Rahn_grid_Grid_Around Tryd.f13.ntmps Tryd.f13.results.toList (Tryd.f13.body.getD .skip) [.ptr kGrid, .int .i64, .int .i64] [.snap (.int .i64), .snap (.int .i64)] (none, c, o, ()) post = Fx_grid_Grid_Around_0  c o post := by kernel_rfl
theorem Raeq_grid_Grid_Around_1 (g : Int × (List (Int × Int × Int × Int)) × (List ((Int × Int) × Int)) × (List (List Int)) × (List Int) × (List Nat) × List Nat) (c : Int) (o : Int) (post : Int × Int × Unit → Prop) : fnEval Rax_grid_Grid_Around Rahn_grid_Grid_Around Tryd.f13.ntmps Tryd.f13.results.toList (Tryd.f13.body.getD .skip) [.ptr kGrid, .int .i64, .int .i64] [.snap (.int .i64), .snap (.int .i64)] ((some g), c, o, ()) post = Fx_grid_Grid_Around_1  g c o post := by kernel_rfl
def RaF_grid_Grid_Around (x : KS [.ptr kGrid, .int .i64, .int .i64]) (post : RS [.snap (.int .i64), .snap (.int .i64)] → Prop) : Prop := match x with
  | (none, y) => Fx_grid_Grid_Around_0  y.1 y.2.1 post
  | (some g, y) => Fx_grid_Grid_Around_1  g y.1 y.2.1 post
theorem Rah_grid_Grid_Around : Raq_grid_Grid_Around.holds Tryd.prog RaG 13 :=
  nam_of_det (detP Rax_grid_Grid_Around_ok Ramixed Rahn_grid_Grid_Around Raat_grid_Grid_Around (F := RaF_grid_Grid_Around) (fun x post => match x with
    | (none, y) => Raeq_grid_Grid_Around_0 y.1 y.2.1 post
    | (some g, y) => Raeq_grid_Grid_Around_1 g y.1 y.2.1 post) fun x h w => match x, h, w with
    | (none, y), h, w => Lx_grid_Grid_Around_0  y.1 y.2.1 h w
    | (some g, y), h, w => Lx_grid_Grid_Around_1  g y.1 y.2.1 h w)
end Go.Lift

set_option linter.unusedVariables false
set_option linter.unusedSimpArgs false
namespace Go.Lift
open Go.Proofs
def Rax_share_good : Cx := ⟨tabOf Ratab, conOf [(10, Raq_grid_Grid_Cells), (11, Raq_grid_Grid_Edges)], RaG⟩
theorem Rax_share_good_ok : CxOk Tryd.prog Rax_share_good := ⟨tabB_sound Ratab_ok, conOf_sound ⟨Rah_grid_Grid_Cells, Rah_grid_Grid_Edges, trivial⟩⟩
theorem Raat_share_good : FnAt Tryd.prog 28 Tryd.f28.ntmps Tryd.f28.results.toList (Tryd.f28.body.getD .skip) := ⟨Tryd.f28, Tryd.func28, rfl, rfl, by simp, by decide⟩
theorem Raeq_share_good (g : Option (Int × (List (Int × Int × Int × Int)) × (List ((Int × Int) × Int)) × (List (List Int)) × (List Int) × (List Nat) × List Nat)) (s : List Int) (f : List Int) (post : Bool × Unit → Prop) : fnEval Rax_share_good Rahn_share_good Tryd.f28.ntmps Tryd.f28.results.toList (Tryd.f28.body.getD .skip) [.ptr kGrid, .slice (.int .i64), .slice (.int .i64)] [.snap .bool] (g, s, f, ()) post = Fx_share_good  g s f post := by kernel_rfl
theorem Rah_share_good : Raq_share_good.holds Tryd.prog RaG 28 :=
  detP Rax_share_good_ok Ramixed Rahn_share_good Raat_share_good (F := fun x post => Fx_share_good  x.1 x.2.1 x.2.2.1 post) (fun x post => Raeq_share_good x.1 x.2.1 x.2.2.1 post) fun x h w => Lx_share_good  x.1 x.2.1 x.2.2.1 h w
def Rax_share_All : Cx := ⟨tabOf Ratab, conOf [(28, Raq_share_good), (13, Raq_grid_Grid_Around), (14, Raq_share_Cut)], RaG⟩
theorem Rax_share_All_ok : CxOk Tryd.prog Rax_share_All := ⟨tabB_sound Ratab_ok, conOf_sound ⟨Rah_share_good, Rah_grid_Grid_Around, Rah_share_Cut, trivial⟩⟩
theorem Raat_share_All : FnAt Tryd.prog 12 Tryd.f12.ntmps Tryd.f12.results.toList (Tryd.f12.body.getD .skip) := ⟨Tryd.f12, Tryd.func12, rfl, rfl, by simp, by decide⟩
theorem Raeq_share_All (g : Option (Int × (List (Int × Int × Int × Int)) × (List ((Int × Int) × Int)) × (List (List Int)) × (List Int) × (List Nat) × List Nat)) (s : List Int) (f : List Int) (post : (List Int) × Int × Unit → Prop) : fnEval Rax_share_All Rahn_share_All Tryd.f12.ntmps Tryd.f12.results.toList (Tryd.f12.body.getD .skip) [.ptr kGrid, .slice (.int .i64), .slice (.int .i64)] [.own 2 (.int .i64), .snap (.int .i64)] (g, s, f, ()) post = Fx_share_All 2 59 60 g s f post := by kernel_rfl
theorem Rah_share_All : Raq_share_All.holds Tryd.prog RaG 12 :=
  nam_of_det (detP Rax_share_All_ok Ramixed Rahn_share_All Raat_share_All (F := fun x post => Fx_share_All 2 59 60 x.1 x.2.1 x.2.2.1 post) (fun x post => Raeq_share_All x.1 x.2.1 x.2.2.1 post) fun x h w => Lx_share_All 2 59 60 x.1 x.2.1 x.2.2.1 h w)
end Go.Lift

set_option linter.unusedVariables false
set_option linter.unusedSimpArgs false
namespace Go.Lift
def Fx_law17_awake := fun (post : Bool × Unit → Prop) => ∃ (h : WTk (10 : Int) (5 : Int) [(3 : Int), (4 : Int), (3 : Int)]), ∃ (h : True), ∀ (a : Bool × Unit), a = intsR [part (5 :
  Int) (psum [(3 : Int), (4 : Int), (3 : Int)] (nat_lit 0 + (1 : Nat))) (10 : Int) - part (5 : Int) (psum [(3 : Int), (4 : Int), (3 : Int)] (nat_lit 0)) (10 : Int), part (5 : Int)
  (psum [(3 : Int), (4 : Int), (3 : Int)] (nat_lit 1 + (1 : Nat))) (10 : Int) - part (5 : Int) (psum [(3 : Int), (4 : Int), (3 : Int)] (nat_lit 1)) (10 : Int), part (5 : Int) (psum
  [(3 : Int), (4 : Int), (3 : Int)] (nat_lit 2 + (1 : Nat))) (10 : Int) - part (5 : Int) (psum [(3 : Int), (4 : Int), (3 : Int)] (nat_lit 2)) (10 : Int)] [(1 : Int), (2 : Int), (2 :
  Int)] → post (a.fst, ())
theorem Lx_law17_awake  : Fx_law17_awake   (fun r => r = yesR) := by
  refine ⟨⟨by unfold I64; decide, by unfold I64; decide, by unfold AllI I64; decide, by unfold ShortI; decide⟩, trivial, ?_⟩
  rintro _ rfl
  decide
end Go.Lift

set_option linter.unusedVariables false
set_option linter.unusedSimpArgs false
namespace Go.Lift
open Go.Proofs
def Rax_law17_awake : Cx := ⟨tabOf Ratab, conOf [(20, Raq_tracer_Takes), (21, Raq_law17_same)], RaG⟩
theorem Rax_law17_awake_ok : CxOk Tryd.prog Rax_law17_awake := ⟨tabB_sound Ratab_ok, conOf_sound ⟨Rah_tracer_Takes, Rah_law17_same, trivial⟩⟩
theorem Raat_law17_awake : FnAt Tryd.prog 16 Tryd.f16.ntmps Tryd.f16.results.toList (Tryd.f16.body.getD .skip) := ⟨Tryd.f16, Tryd.func16, rfl, rfl, by simp, by decide⟩
theorem Raeq_law17_awake  (post : Bool × Unit → Prop) : fnEval Rax_law17_awake Rahn_law17_awake Tryd.f16.ntmps Tryd.f16.results.toList (Tryd.f16.body.getD .skip) [] [.snap .bool] (()) post = Fx_law17_awake   post := by kernel_rfl
theorem Rah_law17_awake : Raq_law17_awake.holds Tryd.prog RaG 16 :=
  detP Rax_law17_awake_ok Ramixed Rahn_law17_awake Raat_law17_awake (F := fun x post => Fx_law17_awake   post) (fun x post => Raeq_law17_awake  post) fun x _ _ => Lx_law17_awake
end Go.Lift

set_option linter.unusedVariables false
set_option linter.unusedSimpArgs false
namespace Go.Lift
def Fx_tracer_good := fun (g : Option (Int × List (Int × Int × Int × Int) × List ((Int × Int) × Int) × List (List Int) × List Int × List Nat × List Nat)) (s t f : List Int) (post :
  Bool × Unit → Prop) => ∃ (h : True), ∀ (a : Bool), a = ((↑s.length : Int) != (nCellsR g).fst) → Br a (post (Bool.false, ())) (∃ (h : True), ∀ (a : Bool), a = ((↑t.length : Int) !=
  (nCellsR g).fst) → Br a (post (Bool.false, ())) (∃ (h : True), ∀ (a : Bool), a = ((↑f.length : Int) != (nEdgesR g).fst) → Br a (post (Bool.false, ())) (HIs [] [] ∧ ∃ (I : Int ×
  Unit → Unit → Prop), ∃ (μ : Int × Unit → Unit → Nat), I ((0 : Int), ()) () ∧ ∀ (x : Int × Unit) (y : Unit), I x y → ∀ (a : Bool), a = decide (x.fst < (↑s.length : Int)) → Br a (∃
  (h : (0 : Int) ≤ x.fst ∧ x.fst < (↑s.length : Int)), ∀ (a : Bool), a = decide (s.getD x.fst.toNat (0 : Int) < (0 : Int)) → Br a (∀ (a : Bool), a = decide (x.fst ≥ (0 : Int)) → Br
  a (post (Bool.false, ())) (HIs [] [] ∧ ∃ (I : Int × Unit → Unit → Prop), ∃ (μ : Int × Unit → Unit → Nat), I ((0 : Int), ()) () ∧ ∀ (x : Int × Unit) (y : Unit), I x y → ∀ (a :
  Bool), a = decide (x.fst < (↑t.length : Int)) → Br a (∃ (h : (0 : Int) ≤ x.fst ∧ x.fst < (↑t.length : Int)), ∀ (a : Bool), a = decide (t.getD x.fst.toNat (0 : Int) < (0 : Int)) →
  Br a (∀ (a : Bool), a = decide (x.fst ≥ (0 : Int)) → Br a (post (Bool.false, ())) (HIs [] [] ∧ ∃ (I : Int × Unit → Unit → Prop), ∃ (μ : Int × Unit → Unit → Nat), I ((0 : Int), ())
  () ∧ ∀ (x : Int × Unit) (y : Unit), I x y → ∀ (a : Bool), a = decide (x.fst < (↑f.length : Int)) → Br a (∃ (h : (0 : Int) ≤ x.fst ∧ x.fst < (↑f.length : Int)), ∀ (a : Bool), a =
  decide (f.getD x.fst.toNat (0 : Int) < (-4503599627370496 : Int)) → Br a (∀ (a : Bool), a = decide (x.fst ≥ (0 : Int)) → post (!a, ())) (∀ (a : Bool), a = decide (f.getD
  x.fst.toNat (0 : Int) > (4503599627370496 : Int)) → Br a (∀ (a : Bool), a = decide (x.fst ≥ (0 : Int)) → post (!a, ())) (HIs [] [] ∧ I (IntKind.i64.wrap (x.fst + (1 : Int)), ())
  () ∧ μ (IntKind.i64.wrap (x.fst + (1 : Int)), ()) () < μ x y))) (∀ (a : Bool), a = decide ((-1 : Int) ≥ (0 : Int)) → post (!a, ())))) (HIs [] [] ∧ I (IntKind.i64.wrap (x.fst + (1
  : Int)), ()) () ∧ μ (IntKind.i64.wrap (x.fst + (1 : Int)), ()) () < μ x y)) (∀ (a : Bool), a = decide ((-1 : Int) ≥ (0 : Int)) → Br a (post (Bool.false, ())) (HIs [] [] ∧ ∃ (I :
  Int × Unit → Unit → Prop), ∃ (μ : Int × Unit → Unit → Nat), I ((0 : Int), ()) () ∧ ∀ (x : Int × Unit) (y : Unit), I x y → ∀ (a : Bool), a = decide (x.fst < (↑f.length : Int)) → Br
  a (∃ (h : (0 : Int) ≤ x.fst ∧ x.fst < (↑f.length : Int)), ∀ (a : Bool), a = decide (f.getD x.fst.toNat (0 : Int) < (-4503599627370496 : Int)) → Br a (∀ (a : Bool), a = decide
  (x.fst ≥ (0 : Int)) → post (!a, ())) (∀ (a : Bool), a = decide (f.getD x.fst.toNat (0 : Int) > (4503599627370496 : Int)) → Br a (∀ (a : Bool), a = decide (x.fst ≥ (0 : Int)) →
  post (!a, ())) (HIs [] [] ∧ I (IntKind.i64.wrap (x.fst + (1 : Int)), ()) () ∧ μ (IntKind.i64.wrap (x.fst + (1 : Int)), ()) () < μ x y))) (∀ (a : Bool), a = decide ((-1 : Int) ≥ (0
  : Int)) → post (!a, ())))))) (HIs [] [] ∧ I (IntKind.i64.wrap (x.fst + (1 : Int)), ()) () ∧ μ (IntKind.i64.wrap (x.fst + (1 : Int)), ()) () < μ x y)) (∀ (a : Bool), a = decide
  ((-1 : Int) ≥ (0 : Int)) → Br a (post (Bool.false, ())) (HIs [] [] ∧ ∃ (I : Int × Unit → Unit → Prop), ∃ (μ : Int × Unit → Unit → Nat), I ((0 : Int), ()) () ∧ ∀ (x : Int × Unit)
  (y : Unit), I x y → ∀ (a : Bool), a = decide (x.fst < (↑t.length : Int)) → Br a (∃ (h : (0 : Int) ≤ x.fst ∧ x.fst < (↑t.length : Int)), ∀ (a : Bool), a = decide (t.getD
  x.fst.toNat (0 : Int) < (0 : Int)) → Br a (∀ (a : Bool), a = decide (x.fst ≥ (0 : Int)) → Br a (post (Bool.false, ())) (HIs [] [] ∧ ∃ (I : Int × Unit → Unit → Prop), ∃ (μ : Int ×
  Unit → Unit → Nat), I ((0 : Int), ()) () ∧ ∀ (x : Int × Unit) (y : Unit), I x y → ∀ (a : Bool), a = decide (x.fst < (↑f.length : Int)) → Br a (∃ (h : (0 : Int) ≤ x.fst ∧ x.fst <
  (↑f.length : Int)), ∀ (a : Bool), a = decide (f.getD x.fst.toNat (0 : Int) < (-4503599627370496 : Int)) → Br a (∀ (a : Bool), a = decide (x.fst ≥ (0 : Int)) → post (!a, ())) (∀ (a
  : Bool), a = decide (f.getD x.fst.toNat (0 : Int) > (4503599627370496 : Int)) → Br a (∀ (a : Bool), a = decide (x.fst ≥ (0 : Int)) → post (!a, ())) (HIs [] [] ∧ I
  (IntKind.i64.wrap (x.fst + (1 : Int)), ()) () ∧ μ (IntKind.i64.wrap (x.fst + (1 : Int)), ()) () < μ x y))) (∀ (a : Bool), a = decide ((-1 : Int) ≥ (0 : Int)) → post (!a, ()))))
  (HIs [] [] ∧ I (IntKind.i64.wrap (x.fst + (1 : Int)), ()) () ∧ μ (IntKind.i64.wrap (x.fst + (1 : Int)), ()) () < μ x y)) (∀ (a : Bool), a = decide ((-1 : Int) ≥ (0 : Int)) → Br a
  (post (Bool.false, ())) (HIs [] [] ∧ ∃ (I : Int × Unit → Unit → Prop), ∃ (μ : Int × Unit → Unit → Nat), I ((0 : Int), ()) () ∧ ∀ (x : Int × Unit) (y : Unit), I x y → ∀ (a : Bool),
  a = decide (x.fst < (↑f.length : Int)) → Br a (∃ (h : (0 : Int) ≤ x.fst ∧ x.fst < (↑f.length : Int)), ∀ (a : Bool), a = decide (f.getD x.fst.toNat (0 : Int) < (-4503599627370496 :
  Int)) → Br a (∀ (a : Bool), a = decide (x.fst ≥ (0 : Int)) → post (!a, ())) (∀ (a : Bool), a = decide (f.getD x.fst.toNat (0 : Int) > (4503599627370496 : Int)) → Br a (∀ (a :
  Bool), a = decide (x.fst ≥ (0 : Int)) → post (!a, ())) (HIs [] [] ∧ I (IntKind.i64.wrap (x.fst + (1 : Int)), ()) () ∧ μ (IntKind.i64.wrap (x.fst + (1 : Int)), ()) () < μ x y))) (∀
  (a : Bool), a = decide ((-1 : Int) ≥ (0 : Int)) → post (!a, ())))))))))
theorem Lx_tracer_good (g : Option (Int × (List (Int × Int × Int × Int)) × (List ((Int × Int) × Int)) × (List (List Int)) × (List Int) × (List Nat) × List Nat)) (s : List Int) (t : List Int) (f : List Int) (h : WGoodH g s t f) (w : KS.wf [.ptr kGrid, .slice (.int .i64), .slice (.int .i64), .slice (.int .i64)] (g, s, t, f, ())) : Fx_tracer_good  g s t f (fun r => r = goodHR g s t f) := by
  have ls : s.length ≤ maxN := w.2.1.1
  have lt : t.length ≤ maxN := w.2.2.1.1
  have lf : f.length ≤ maxN := w.2.2.2.1.1
  have hm : maxN ≤ 9223372036854775806 := by decide
  have no : ¬ ((s.length : Int) = nCells g ∧ (f.length : Int) = nEdges g ∧ (∀ x ∈ s, 0 ≤ x) ∧ (∀ x ∈ f, FlowOk x = true) ∧ t.length = s.length ∧ ∀ x ∈ t, 0 ≤ x) → (false, ()) = goodHR g s t f := fun q => by
    unfold goodHR
    rw [show goodH (nCells g) (nEdges g) s t f = false from by rw [Bool.eq_false_iff]; exact fun z => q (goodH_iff.1 z)]
  refine ⟨trivial, ?_⟩
  rintro _ rfl
  refine Br.intro (fun e => no fun q => (bne_iff_ne.1 e) q.1) fun e => ?_
  have e : (s.length : Int) = nCells g := by
    have e : ((s.length : Int) != nCells g) = false := e
    simpa using e
  refine ⟨trivial, ?_⟩
  rintro _ rfl
  refine Br.intro (fun e2 => no fun q => (bne_iff_ne.1 e2) (by show (t.length : Int) = nCells g; have := q.2.2.2.2.1; omega)) fun e2 => ?_
  have e2 : (t.length : Int) = nCells g := by
    have e2 : ((t.length : Int) != nCells g) = false := e2
    simpa using e2
  refine ⟨trivial, ?_⟩
  rintro _ rfl
  refine Br.intro (fun e3 => no fun q => (bne_iff_ne.1 e3) q.2.1) fun e3 => ?_
  have e3 : (f.length : Int) = nEdges g := by
    have e3 : ((f.length : Int) != nEdges g) = false := e3
    simpa using e3
  refine ⟨rfl, fun x _ => ∃ k : Nat, x.1 = k ∧ k ≤ s.length ∧ ∀ j, j < k → 0 ≤ s.getD j 0, fun x _ => s.length - x.1.toNat, ⟨0, rfl, by omega, fun j hj => by omega⟩, ?_⟩
  rintro ⟨_, ⟨⟩⟩ _ ⟨k, rfl, hk, hi⟩
  dsimp only
  rintro _ rfl
  refine Br.intro (fun g1 => ?_) fun g1 => ?_
  · have g1 : k < s.length := by have g1 : (k : Int) < s.length := of_decide_eq_true g1; omega
    refine ⟨⟨by omega, by omega⟩, ?_⟩
    rw [Int.toNat_natCast, wi_succ g1 (by omega)]
    rintro _ rfl
    refine Br.intro (fun z => ?_) fun z => ?_
    · rintro _ rfl
      refine Br.intro (fun _ => no fun q => ?_) fun y => ?_
      · have := q.2.2.1 _ (getD_mem g1 0)
        have z := of_decide_eq_true z
        omega
      · have := of_decide_eq_false y
        omega
    · refine ⟨rfl, ⟨k + 1, rfl, by omega, fun j hj => ?_⟩, by omega⟩
      by_cases e : j = k
      · subst e; have := of_decide_eq_false z; omega
      · exact hi j (by omega)
  have hS : ∀ x ∈ s, 0 ≤ x := by
    have g1 : k = s.length := by have g1 : ¬ (k : Int) < s.length := of_decide_eq_false g1; omega
    subst g1
    exact all_get hi
  clear hi hk g1
  rintro _ rfl
  refine Br.intro (fun y => absurd y (by decide)) fun _ => ?_
  refine ⟨rfl, fun x _ => ∃ k : Nat, x.1 = k ∧ k ≤ t.length ∧ ∀ j, j < k → 0 ≤ t.getD j 0, fun x _ => t.length - x.1.toNat, ⟨0, rfl, by omega, fun j hj => by omega⟩, ?_⟩
  rintro ⟨_, ⟨⟩⟩ _ ⟨k, rfl, hk, hi⟩
  dsimp only
  rintro _ rfl
  refine Br.intro (fun g1 => ?_) fun g1 => ?_
  · have g1 : k < t.length := by have g1 : (k : Int) < t.length := of_decide_eq_true g1; omega
    refine ⟨⟨by omega, by omega⟩, ?_⟩
    rw [Int.toNat_natCast, wi_succ g1 (by omega)]
    rintro _ rfl
    refine Br.intro (fun z => ?_) fun z => ?_
    · rintro _ rfl
      refine Br.intro (fun _ => no fun q => ?_) fun y => ?_
      · have := q.2.2.2.2.2 _ (getD_mem g1 0)
        have z := of_decide_eq_true z
        omega
      · have := of_decide_eq_false y
        omega
    · refine ⟨rfl, ⟨k + 1, rfl, by omega, fun j hj => ?_⟩, by omega⟩
      by_cases e : j = k
      · subst e; have := of_decide_eq_false z; omega
      · exact hi j (by omega)
  have hT : ∀ x ∈ t, 0 ≤ x := by
    have g1 : k = t.length := by have g1 : ¬ (k : Int) < t.length := of_decide_eq_false g1; omega
    subst g1
    exact all_get hi
  clear hi hk g1
  rintro _ rfl
  refine Br.intro (fun y => absurd y (by decide)) fun _ => ?_
  refine ⟨rfl, fun x _ => ∃ k : Nat, x.1 = k ∧ k ≤ f.length ∧ ∀ j, j < k → FlowOk (f.getD j 0) = true, fun x _ => f.length - x.1.toNat, ⟨0, rfl, by omega, fun j hj => by omega⟩, ?_⟩
  rintro ⟨_, ⟨⟩⟩ _ ⟨k, rfl, hk, hi⟩
  dsimp only
  rintro _ rfl
  have bad : k < f.length → ¬ FlowOk (f.getD k 0) = true → ∀ a : Bool, a = decide ((k : Int) ≥ 0) → (!a, ()) = goodHR g s t f := by
    rintro g1 hb _ rfl
    rw [decide_eq_true (p := (k : Int) ≥ 0) (by omega)]
    exact no fun q => hb (q.2.2.2.1 _ (getD_mem g1 0))
  refine Br.intro (fun g1 => ?_) fun g1 => ?_
  · have g1 : k < f.length := by have g1 : (k : Int) < f.length := of_decide_eq_true g1; omega
    refine ⟨⟨by omega, by omega⟩, ?_⟩
    rw [Int.toNat_natCast, wi_succ g1 (by omega)]
    rintro _ rfl
    refine Br.intro (fun z => ?_) fun z => ?_
    · exact bad g1 fun q => by have := flowOk_iff.1 q; have := of_decide_eq_true z; omega
    have z := of_decide_eq_false z
    rintro _ rfl
    refine Br.intro (fun y => ?_) fun y => ?_
    · exact bad g1 fun q => by have := flowOk_iff.1 q; have := of_decide_eq_true y; omega
    · have y := of_decide_eq_false y
      refine ⟨rfl, ⟨k + 1, rfl, by omega, fun j hj => ?_⟩, by omega⟩
      by_cases e : j = k
      · subst e; exact flowOk_iff.2 ⟨by omega, by omega⟩
      · exact hi j (by omega)
  have hF : ∀ x ∈ f, FlowOk x = true := by
    have g1 : k = f.length := by have g1 : ¬ (k : Int) < f.length := of_decide_eq_false g1; omega
    subst g1
    exact all_get (p := fun x => FlowOk x = true) hi
  rintro _ rfl
  show (true, ()) = goodHR g s t f
  unfold goodHR
  rw [goodH_iff.2 ⟨e, e3, hS, hF, by omega, hT⟩]
def Fx_tracer_Flows := fun (ty2 ty72 : Nat) (g : Option (Int × List (Int × Int × Int × Int) × List ((Int × Int) × Int) × List (List Int) × List Int × List Nat × List Nat)) (s t f :
  List Int) (post : List Int × Int × Unit → Prop) => Br g.isNone (post ([], (2 : Int), ())) (∃ (h : WGoodH g s t f), ∀ (a : Bool), a = (goodHR g s t f).fst → Br (!a) (post ([], (1 :
  Int), ())) (∃ (h : (0 : Int) ≤ (↑f.length : Int) ∧ (↑f.length : Int) ≤ (↑f.length : Int) ∧ (↑f.length : Int) * (↑(8 : Nat) : Int) ≤ (281474976710656 : Int)), HIs [HObj.row Md.rw
  ty2 (K.int IntKind.i64) (List.replicate f.length (0 : Int))] [HObj.row Md.rw ty2 (K.int IntKind.i64) (List.replicate f.length (0 : Int))] ∧ ∃ (I : Int × Unit → List Int × Unit →
  Prop), ∃ (μ : Int × Unit → List Int × Unit → Nat), I ((0 : Int), ()) (List.replicate f.length (0 : Int), ()) ∧ ∀ (x : Int × Unit) (y : List Int × Unit), I x y → ∀ (a : Bool), a =
  decide (x.fst < (↑s.length : Int)) → Br a (∃ (h : (0 : Int) ≤ x.fst ∧ x.fst < (↑s.length : Int)), HIs [HObj.row Md.rw ty2 (K.int IntKind.i64) y.fst, HObj.row Md.rw ty72 (K.int
  IntKind.i64) (List.replicate (4 : Nat) (0 : Int))] [HObj.row Md.rw ty2 (K.int IntKind.i64) y.fst, HObj.row Md.rw ty72 (K.int IntKind.i64) (List.replicate (4 : Nat) (0 : Int))] ∧ ∃
  (I_1 : Int × Unit → List Int × Unit → Prop), ∃ (μ_1 : Int × Unit → List Int × Unit → Nat), I_1 ((0 : Int), ()) (List.replicate (4 : Nat) (0 : Int), ()) ∧ ∀ (x_3 : Int × Unit) (y_1
  : List Int × Unit), I_1 x_3 y_1 → ∀ (a : Bool), a = decide (x_3.fst < (4 : Int)) → Br a (∃ (h : WNet g x.fst x_3.fst), ∀ (a : Int × Int × Unit), a = nAroundR g x.fst x_3.fst → ∃
  (h : (0 : Int) ≤ a.fst ∧ a.fst < (↑f.length : Int)), ∃ (h : (0 : Int) ≤ x_3.fst ∧ x_3.fst < (↑(4 : Nat) : Int) ∧ (4 : Nat) ≤ y_1.fst.length), HIs [HObj.row Md.rw ty2 (K.int
  IntKind.i64) y.fst, HObj.row Md.rw ty72 (K.int IntKind.i64) (y_1.fst.set x_3.fst.toNat (imax (0 : Int) (IntKind.i64.wrap (f.getD a.fst.toNat (0 : Int) * a.snd.fst))))] [HObj.row
  Md.rw ty2 (K.int IntKind.i64) y.fst, HObj.row Md.rw ty72 (K.int IntKind.i64) (y_1.fst.set x_3.fst.toNat (imax (0 : Int) (IntKind.i64.wrap (f.getD a.fst.toNat (0 : Int) *
  a.snd.fst))))] ∧ I_1 (IntKind.i64.wrap (x_3.fst + (1 : Int)), ()) (y_1.fst.set x_3.fst.toNat (imax (0 : Int) (IntKind.i64.wrap (f.getD a.fst.toNat (0 : Int) * a.snd.fst))), ()) ∧
  μ_1 (IntKind.i64.wrap (x_3.fst + (1 : Int)), ()) (y_1.fst.set x_3.fst.toNat (imax (0 : Int) (IntKind.i64.wrap (f.getD a.fst.toNat (0 : Int) * a.snd.fst))), ()) < μ_1 x_3 y_1) (∃
  (h : (0 : Int) ≤ x.fst ∧ x.fst < (↑t.length : Int)), ∃ (h : (0 : Int) ≤ (0 : Int) ∧ (0 : Int) ≤ (↑(4 : Nat) : Int) ∧ (↑(4 : Nat) : Int) ≤ (↑(4 : Nat) : Int) ∧ (4 : Nat) =
  y_1.fst.length), ∃ (h : WTk (s.getD x.fst.toNat (0 : Int)) (t.getD x.fst.toNat (0 : Int)) (List.take ((↑(4 : Nat) : Int) - (0 : Int)).toNat (List.drop (Int.toNat (0 : Int))
  y_1.fst))), ∀ (a : Bool), a = ((tkR (s.getD x.fst.toNat (0 : Int)) (t.getD x.fst.toNat (0 : Int)) (List.take ((↑(4 : Nat) : Int) - (0 : Int)).toNat (List.drop (Int.toNat (0 :
  Int)) y_1.fst))).snd.fst != (0 : Int)) → Br a (post ([], (tkR (s.getD x.fst.toNat (0 : Int)) (t.getD x.fst.toNat (0 : Int)) (List.take ((↑(4 : Nat) : Int) - (0 : Int)).toNat
  (List.drop (Int.toNat (0 : Int)) y_1.fst))).snd.fst, ())) (HIs [HObj.row Md.rw ty2 (K.int IntKind.i64) y.fst, HObj.row Md.rw ty72 (K.int IntKind.i64) y_1.fst, HObj.row Md.rw ty2
  (K.int IntKind.i64) (tkR (s.getD x.fst.toNat (0 : Int)) (t.getD x.fst.toNat (0 : Int)) (List.take ((↑(4 : Nat) : Int) - (0 : Int)).toNat (List.drop (Int.toNat (0 : Int))
  y_1.fst))).fst] [HObj.row Md.rw ty2 (K.int IntKind.i64) y.fst, HObj.row Md.rw ty72 (K.int IntKind.i64) y_1.fst, HObj.row Md.rw ty2 (K.int IntKind.i64) (tkR (s.getD x.fst.toNat (0
  : Int)) (t.getD x.fst.toNat (0 : Int)) (List.take ((↑(4 : Nat) : Int) - (0 : Int)).toNat (List.drop (Int.toNat (0 : Int)) y_1.fst))).fst] ∧ ∃ (I_2 : Int × Unit → List Int × Unit →
  Prop), ∃ (μ_2 : Int × Unit → List Int × Unit → Nat), I_2 ((0 : Int), ()) (y.fst, ()) ∧ ∀ (x_7 : Int × Unit) (y_2 : List Int × Unit), I_2 x_7 y_2 → ∀ (a : Bool), a = decide
  (x_7.fst < (4 : Int)) → Br a (∃ (h : WNet g x.fst x_7.fst), ∀ (a : Int × Int × Unit), a = nAroundR g x.fst x_7.fst → ∃ (h : (0 : Int) ≤ x_7.fst ∧ x_7.fst < (↑(4 : Nat) : Int) ∧ (4
  : Nat) ≤ y_1.fst.length), ∀ (a_1 : Bool), a_1 = decide (y_1.fst.getD x_7.fst.toNat (0 : Int) > (0 : Int)) → Br a_1 (∃ (h : (0 : Int) ≤ x_7.fst ∧ x_7.fst < (↑(tkR (s.getD
  x.fst.toNat (0 : Int)) (t.getD x.fst.toNat (0 : Int)) (List.take ((↑(4 : Nat) : Int) - (0 : Int)).toNat (List.drop (Int.toNat (0 : Int)) y_1.fst))).fst.length : Int)), ∃ (h : (0 :
  Int) ≤ a.fst ∧ a.fst < (↑f.length : Int)), HIs [HObj.row Md.rw ty2 (K.int IntKind.i64) (y_2.fst.set ((0 : Nat) + a.fst.toNat) (IntKind.i64.wrap ((tkR (s.getD x.fst.toNat (0 :
  Int)) (t.getD x.fst.toNat (0 : Int)) (List.take ((↑(4 : Nat) : Int) - (0 : Int)).toNat (List.drop (Int.toNat (0 : Int)) y_1.fst))).fst.getD ((0 : Nat) + x_7.fst.toNat) (0 : Int) *
  a.snd.fst))), HObj.row Md.rw ty72 (K.int IntKind.i64) y_1.fst, HObj.row Md.rw ty2 (K.int IntKind.i64) (tkR (s.getD x.fst.toNat (0 : Int)) (t.getD x.fst.toNat (0 : Int)) (List.take
  ((↑(4 : Nat) : Int) - (0 : Int)).toNat (List.drop (Int.toNat (0 : Int)) y_1.fst))).fst] [HObj.row Md.rw ty2 (K.int IntKind.i64) (y_2.fst.set ((0 : Nat) + a.fst.toNat)
  (IntKind.i64.wrap ((tkR (s.getD x.fst.toNat (0 : Int)) (t.getD x.fst.toNat (0 : Int)) (List.take ((↑(4 : Nat) : Int) - (0 : Int)).toNat (List.drop (Int.toNat (0 : Int))
  y_1.fst))).fst.getD ((0 : Nat) + x_7.fst.toNat) (0 : Int) * a.snd.fst))), HObj.row Md.rw ty72 (K.int IntKind.i64) y_1.fst, HObj.row Md.rw ty2 (K.int IntKind.i64) (tkR (s.getD
  x.fst.toNat (0 : Int)) (t.getD x.fst.toNat (0 : Int)) (List.take ((↑(4 : Nat) : Int) - (0 : Int)).toNat (List.drop (Int.toNat (0 : Int)) y_1.fst))).fst] ∧ I_2 (IntKind.i64.wrap
  (x_7.fst + (1 : Int)), ()) (y_2.fst.set ((0 : Nat) + a.fst.toNat) (IntKind.i64.wrap ((tkR (s.getD x.fst.toNat (0 : Int)) (t.getD x.fst.toNat (0 : Int)) (List.take ((↑(4 : Nat) :
  Int) - (0 : Int)).toNat (List.drop (Int.toNat (0 : Int)) y_1.fst))).fst.getD ((0 : Nat) + x_7.fst.toNat) (0 : Int) * a.snd.fst)), ()) ∧ μ_2 (IntKind.i64.wrap (x_7.fst + (1 :
  Int)), ()) (y_2.fst.set ((0 : Nat) + a.fst.toNat) (IntKind.i64.wrap ((tkR (s.getD x.fst.toNat (0 : Int)) (t.getD x.fst.toNat (0 : Int)) (List.take ((↑(4 : Nat) : Int) - (0 :
  Int)).toNat (List.drop (Int.toNat (0 : Int)) y_1.fst))).fst.getD ((0 : Nat) + x_7.fst.toNat) (0 : Int) * a.snd.fst)), ()) < μ_2 x_7 y_2) (HIs [HObj.row Md.rw ty2 (K.int
  IntKind.i64) y_2.fst, HObj.row Md.rw ty72 (K.int IntKind.i64) y_1.fst, HObj.row Md.rw ty2 (K.int IntKind.i64) (tkR (s.getD x.fst.toNat (0 : Int)) (t.getD x.fst.toNat (0 : Int))
  (List.take ((↑(4 : Nat) : Int) - (0 : Int)).toNat (List.drop (Int.toNat (0 : Int)) y_1.fst))).fst] [HObj.row Md.rw ty2 (K.int IntKind.i64) y_2.fst, HObj.row Md.rw ty72 (K.int
  IntKind.i64) y_1.fst, HObj.row Md.rw ty2 (K.int IntKind.i64) (tkR (s.getD x.fst.toNat (0 : Int)) (t.getD x.fst.toNat (0 : Int)) (List.take ((↑(4 : Nat) : Int) - (0 : Int)).toNat
  (List.drop (Int.toNat (0 : Int)) y_1.fst))).fst] ∧ I_2 (IntKind.i64.wrap (x_7.fst + (1 : Int)), ()) (y_2.fst, ()) ∧ μ_2 (IntKind.i64.wrap (x_7.fst + (1 : Int)), ()) (y_2.fst, ())
  < μ_2 x_7 y_2)) (HIs [HObj.row Md.rw ty2 (K.int IntKind.i64) y_2.fst] [HObj.row Md.rw ty2 (K.int IntKind.i64) y_2.fst] ∧ I (IntKind.i64.wrap (x.fst + (1 : Int)), ()) (y_2.fst, ())
  ∧ μ (IntKind.i64.wrap (x.fst + (1 : Int)), ()) (y_2.fst, ()) < μ x y)))) (((0 : Nat) = (0 : Nat) ∧ f.length = y.fst.length) ∧ post (y.fst, (0 : Int), ()))))
theorem Lx_tracer_Flows (ty0 ty1 : Nat) (g : Option (Int × (List (Int × Int × Int × Int)) × (List ((Int × Int) × Int)) × (List (List Int)) × (List Int) × (List Nat) × List Nat)) (s : List Int) (t : List Int) (f : List Int) (h : WFlows g s t f) (w : KS.wf [.ptr kGrid, .slice (.int .i64), .slice (.int .i64), .slice (.int .i64)] (g, s, t, f, ())) : Fx_tracer_Flows ty0 ty1 g s t f (fun r => r = sFlowsR g s t f) := by
  obtain ⟨hg, hs, ht0, hf0⟩ := h
  cases g with
  | none => exact Br.intro (fun _ => rfl) fun e => by cases e
  | some g =>
  obtain ⟨n, gn, rfl⟩ := netP_some hg
  refine Br.intro (fun e => by cases e) fun _ => ?_
  refine ⟨⟨hs, ht0, hf0⟩, ?_⟩
  rintro _ rfl
  have A := arOk_n n
  have hAr : ∀ c o, nAroundR (some (netG n)) c o = ((nAround (some (netG n)) c o).1, (nAround (some (netG n)) c o).2, ()) := fun _ _ => rfl
  have hres : sFlowsR (some (netG n)) s t f = ((flowsA false (nCells (some (netG n))) (nEdges (some (netG n))) (nAround (some (netG n))) s t f).1, (flowsA false (nCells (some (netG n))) (nEdges (some (netG n))) (nAround (some (netG n))) s t f).2, ()) := rfl
  refine Br.intro (fun e => ?_) fun e => ?_
  · have e : ¬ goodH (nCells (some (netG n))) (nEdges (some (netG n))) s t f = true := by
      have e : (!goodH (nCells (some (netG n))) (nEdges (some (netG n))) s t f) = true := e
      simpa using e
    rw [hres, flows_bad e]
  have e : goodH (nCells (some (netG n))) (nEdges (some (netG n))) s t f = true := by
    have e : (!goodH (nCells (some (netG n))) (nEdges (some (netG n))) s t f) = false := e
    simpa using e
  rw [hres]
  have gH := goodH_iff.1 e
  obtain ⟨h1, h2, h3, h4⟩ := good_net (n := n) (s := s) (f := f) (goodN_iff.2 ⟨gH.1, gH.2.1, gH.2.2.1, gH.2.2.2.1⟩)
  have hTl : t.length = s.length := gH.2.2.2.2.1
  have hgood := e
  have cr := cells_rng n
  have hE := (netN_ok n (cellsI n).toNat (by omega)).2
  have hE : (netE n).1.length ≤ 4 * (cellsI n).toNat := hE
  obtain ⟨N, hN⟩ : ∃ N, N = nCells (some (netG n)) := ⟨_, rfl⟩
  obtain ⟨M, hM⟩ : ∃ M, M = nEdges (some (netG n)) := ⟨_, rfl⟩
  rw [← hN, ← hM]
  rw [← hN, ← hM] at hgood
  generalize nAround (some (netG n)) = ar at *
  obtain ⟨gv, hgv⟩ : ∃ gv, takesG ar s t f = gv := ⟨_, rfl⟩
  refine ⟨⟨by omega, by omega, by omega⟩, rfl, fun x y => ∃ k : Nat, x.1 = k ∧ k ≤ s.length ∧ (∀ j, j < k → takesE ar s t f j = 0) ∧ y.1 = allP ar f gv k, fun x _ => s.length - x.1.toNat, ⟨0, rfl, by omega, fun j hj => by omega, rfl⟩, ?_⟩
  rintro ⟨_, ⟨⟩⟩ ⟨_, ⟨⟩⟩ ⟨k, rfl, hk, hz, rfl⟩
  dsimp only
  rintro _ rfl
  refine Br.intro (fun d => ?_) fun d => ?_
  rotate_left
  · have d : k = s.length := by have d : ¬ (k : Int) < s.length := of_decide_eq_false d; omega
    have hlen : (allP ar f gv k).length = f.length := (allP_laid A h4 h2 k (by omega)).1.trans h2.symm
    refine ⟨⟨rfl, hlen.symm⟩, ?_⟩
    rw [flows_ok hgood (fun j hj => hz j (by omega)), hgv, d]
  have d : k < s.length := by have d : (k : Int) < s.length := of_decide_eq_true d; omega
  have hp : placeOk n (k : Int) = true := place_nat (by omega)
  refine ⟨⟨by omega, by omega⟩, rfl, fun x y => ∃ j : Nat, x.1 = j ∧ j ≤ 4 ∧ y.1 = fill4 j (outN ar f k), fun x _ => 4 - x.1.toNat, ⟨0, rfl, by omega, rfl⟩, ?_⟩
  rintro ⟨_, ⟨⟩⟩ ⟨_, ⟨⟩⟩ ⟨j, rfl, hj, rfl⟩
  dsimp only
  rintro _ rfl
  refine Br.intro (fun e1 => ?_) fun e1 => ?_
  · have e1 : j < 4 := by have e1 : (j : Int) < 4 := of_decide_eq_true e1; omega
    refine ⟨⟨hg, ⟨by omega, by omega⟩, by omega, by omega⟩, ?_⟩
    rintro _ rfl
    obtain ⟨s1, s2, s3, s4, s5⟩ := side_facts A h4 h2 (c := k) (o := j) (besideOk_iff.2 ⟨hp, by omega, by omega⟩)
    rw [hAr]
    dsimp only
    rw [wi_small (by omega) (by omega), wi_succ e1 (by omega), Int.toNat_natCast]
    exact ⟨⟨s1, s2⟩, ⟨by omega, by show (j : Int) < 4; omega, Nat.le_refl 4⟩, rfl, ⟨j + 1, rfl, by omega, fill4_set e1 (outN ar f k)⟩, by omega⟩
  have e1 : j = 4 := by have e1 : ¬ (j : Int) < 4 := of_decide_eq_false e1; omega
  subst e1
  have f4 : ∀ g, fill4 4 g = four g := fun g => rfl
  rw [f4]
  obtain ⟨o1, o2, o3⟩ := outs_ok (outs_fine A h4 hp)
  rw [four_take, Int.toNat_natCast]
  have hc : tkR (s.getD k 0) (t.getD k 0) (four (outN ar f k)) = ((takesF (s.getD k 0) (t.getD k 0) (outsN ar f k)).1, takesE ar s t f k, ()) := rfl
  rw [hc]
  refine ⟨⟨by omega, by show (k : Int) < (t.length : Int); omega⟩, ⟨by decide, by decide, by decide, rfl⟩, ⟨hs _ (getD_mem d 0), ht0 _ (getD_mem (by omega) 0), o2, o3⟩, ?_⟩
  rintro _ rfl
  refine Br.intro (fun q => ?_) fun q => ?_
  · have q : takesE ar s t f k ≠ 0 := bne_iff_ne.1 q
    rw [flows_err d q]
    have : takesE ar s t f k = 1 := by
      rcases takes_two (a := s.getD k 0) (b := t.getD k 0) (c := outsN ar f k) with z | z
      · exact absurd z q
      · exact congrArg Prod.snd z
    rw [this]
  have q : takesE ar s t f k = 0 := by
    have q : (takesE ar s t f k != 0) = false := q
    simpa using q
  obtain ⟨c1, c2, c3⟩ := take_facts A h4 (w := s.getD k 0) (h := t.getD k 0) (ht0 _ (getD_mem (by omega) 0)) hp q
  have hgk : gv k = takesOut (s.getD k 0) (t.getD k 0) (outsN ar f k) := by rw [← hgv]; exact congrArg Prod.fst c1
  rw [show (takesF (s.getD k 0) (t.getD k 0) (outsN ar f k)).1 = takesOut (s.getD k 0) (t.getD k 0) (outsN ar f k) from congrArg Prod.fst c1]
  refine ⟨rfl, fun x y => ∃ j : Nat, x.1 = j ∧ j ≤ 4 ∧ y.1 = putsP ar f (gv k) k (allP ar f gv k) j, fun x _ => 4 - x.1.toNat, ⟨0, rfl, by omega, rfl⟩, ?_⟩
  rintro ⟨_, ⟨⟩⟩ ⟨_, ⟨⟩⟩ ⟨i, rfl, hi, rfl⟩
  dsimp only
  rintro _ rfl
  refine Br.intro (fun e2 => ?_) fun e2 => ?_
  rotate_left
  · have e2 : i = 4 := by have e2 : ¬ (i : Int) < 4 := of_decide_eq_false e2; omega
    subst e2
    rw [wi_succ d (by omega)]
    refine ⟨rfl, ⟨k + 1, rfl, by omega, fun j hj => ?_, rfl⟩, by omega⟩
    by_cases z : j = k
    · rw [z]; exact q
    · exact hz j (by omega)
  have e2 : i < 4 := by have e2 : (i : Int) < 4 := of_decide_eq_true e2; omega
  obtain ⟨s1, s2, s3, s4, s5⟩ := side_facts A h4 h2 (c := k) (o := i) (besideOk_iff.2 ⟨hp, by omega, by omega⟩)
  obtain ⟨g1, g2, g3⟩ := c3 i e2
  rw [Int.toNat_natCast, four_get e2, Nat.zero_add, wi_succ e2 (by omega)]
  have hst : putsP ar f (gv k) k (allP ar f gv k) (i + 1) = putP ar f (gv k) k i (putsP ar f (gv k) k (allP ar f gv k) i) := rfl
  refine ⟨⟨hg, ⟨by omega, by omega⟩, by omega, by omega⟩, ?_⟩
  rintro _ rfl
  rw [hAr]
  dsimp only
  refine ⟨⟨by omega, by show (i : Int) < 4; omega, Nat.le_refl 4⟩, ?_⟩
  rintro _ rfl
  refine Br.intro (fun z => ?_) fun z => ?_
  · have z : 0 < outN ar f k i := of_decide_eq_true z
    have hm2 : IntKind.i64.wrap ((takesOut (s.getD k 0) (t.getD k 0) (outsN ar f k)).getD i 0 * (ar k i).2) = (takesOut (s.getD k 0) (t.getD k 0) (outsN ar f k)).getD i 0 * (ar k i).2 := by
      rcases s3 with q | q <;> rw [q] <;> exact wi_small (by omega) (by omega)
    rw [Nat.zero_add, hm2]
    refine ⟨⟨by omega, by rw [c2]; omega⟩, ⟨s1, s2⟩, rfl, ⟨i + 1, rfl, by omega, ?_⟩, by omega⟩
    rw [hst]; unfold putP; rw [if_pos z, hgk, Int.toNat_natCast]
  · have z : ¬ 0 < outN ar f k i := of_decide_eq_false z
    exact ⟨rfl, ⟨i + 1, rfl, by omega, by rw [hst]; unfold putP; rw [if_neg z]⟩, by omega⟩
end Go.Lift

set_option linter.unusedVariables false
set_option linter.unusedSimpArgs false
namespace Go.Lift
open Go.Proofs
def Rax_tracer_good : Cx := ⟨tabOf Ratab, conOf [(10, Raq_grid_Grid_Cells), (11, Raq_grid_Grid_Edges)], RaG⟩
theorem Rax_tracer_good_ok : CxOk Tryd.prog Rax_tracer_good := ⟨tabB_sound Ratab_ok, conOf_sound ⟨Rah_grid_Grid_Cells, Rah_grid_Grid_Edges, trivial⟩⟩
theorem Raat_tracer_good : FnAt Tryd.prog 29 Tryd.f29.ntmps Tryd.f29.results.toList (Tryd.f29.body.getD .skip) := ⟨Tryd.f29, Tryd.func29, rfl, rfl, by simp, by decide⟩
theorem Raeq_tracer_good (g : Option (Int × (List (Int × Int × Int × Int)) × (List ((Int × Int) × Int)) × (List (List Int)) × (List Int) × (List Nat) × List Nat)) (s : List Int) (t : List Int) (f : List Int) (post : Bool × Unit → Prop) : fnEvalI Rax_tracer_good Rahn_tracer_good (callLvl Rax_tracer_good Rafns_cont 6) Tryd.f29.ntmps Tryd.f29.results.toList (Tryd.f29.body.getD .skip) [.ptr kGrid, .slice (.int .i64), .slice (.int .i64), .slice (.int .i64)] [.snap .bool] (g, s, t, f, ()) post = Fx_tracer_good  g s t f post := by kernel_rfl
theorem Rah_tracer_good : Raq_tracer_good.holds Tryd.prog RaG 29 :=
  detPI Rax_tracer_good_ok Ramixed Rahn_tracer_good (callLvl_ok Rax_tracer_good_ok Ramixed Rafns_cont_ok 6) Raat_tracer_good (F := fun x post => Fx_tracer_good  x.1 x.2.1 x.2.2.1 x.2.2.2.1 post) (fun x post => Raeq_tracer_good x.1 x.2.1 x.2.2.1 x.2.2.2.1 post) fun x h w => Lx_tracer_good  x.1 x.2.1 x.2.2.1 x.2.2.2.1 h w
def Rax_tracer_Flows : Cx := ⟨tabOf Ratab, conOf [(29, Raq_tracer_good), (13, Raq_grid_Grid_Around), (20, Raq_tracer_Takes)], RaG⟩
theorem Rax_tracer_Flows_ok : CxOk Tryd.prog Rax_tracer_Flows := ⟨tabB_sound Ratab_ok, conOf_sound ⟨Rah_tracer_good, Rah_grid_Grid_Around, Rah_tracer_Takes, trivial⟩⟩
theorem Raat_tracer_Flows : FnAt Tryd.prog 18 Tryd.f18.ntmps Tryd.f18.results.toList (Tryd.f18.body.getD .skip) := ⟨Tryd.f18, Tryd.func18, rfl, rfl, by simp, by decide⟩
theorem Raeq_tracer_Flows (g : Option (Int × (List (Int × Int × Int × Int)) × (List ((Int × Int) × Int)) × (List (List Int)) × (List Int) × (List Nat) × List Nat)) (s : List Int) (t : List Int) (f : List Int) (post : (List Int) × Int × Unit → Prop) : fnEval Rax_tracer_Flows Rahn_tracer_Flows Tryd.f18.ntmps Tryd.f18.results.toList (Tryd.f18.body.getD .skip) [.ptr kGrid, .slice (.int .i64), .slice (.int .i64), .slice (.int .i64)] [.own 2 (.int .i64), .snap (.int .i64)] (g, s, t, f, ()) post = Fx_tracer_Flows 2 59 g s t f post := by kernel_rfl
theorem Rah_tracer_Flows : Raq_tracer_Flows.holds Tryd.prog RaG 18 :=
  nam_of_det (detP Rax_tracer_Flows_ok Ramixed Rahn_tracer_Flows Raat_tracer_Flows (F := fun x post => Fx_tracer_Flows 2 59 x.1 x.2.1 x.2.2.1 x.2.2.2.1 post) (fun x post => Raeq_tracer_Flows x.1 x.2.1 x.2.2.1 x.2.2.2.1 post) fun x h w => Lx_tracer_Flows 2 59 x.1 x.2.1 x.2.2.1 x.2.2.2.1 h w)
end Go.Lift

set_option linter.unusedVariables false
set_option linter.unusedSimpArgs false
namespace Go.Lift
open Go.Proofs
def Rax_law17_TracerKeeps : Cx := ⟨tabOf Ratab, conOf [(16, Raq_law17_awake), (8, Raq_grid_New), (10, Raq_grid_Grid_Cells), (17, Raq_law17_fit), (11, Raq_grid_Grid_Edges), (12, Raq_share_All), (18, Raq_tracer_Flows), (20, Raq_tracer_Takes), (21, Raq_law17_same)], RaG⟩
theorem Rax_law17_TracerKeeps_ok : CxOk Tryd.prog Rax_law17_TracerKeeps := ⟨tabB_sound Ratab_ok, conOf_sound ⟨Rah_law17_awake, Rah_grid_New, Rah_grid_Grid_Cells, Rah_law17_fit, Rah_grid_Grid_Edges, Rah_share_All, Rah_tracer_Flows, Rah_tracer_Takes, Rah_law17_same, trivial⟩⟩
theorem Raat_law17_TracerKeeps : FnAt Tryd.prog 6 Tryd.f6.ntmps Tryd.f6.results.toList (Tryd.f6.body.getD .skip) := ⟨Tryd.f6, Tryd.func6, rfl, rfl, by simp, by decide⟩
theorem Raeq_law17_TracerKeeps (n : Int) (s : List Int) (t : List Int) (f : List Int) (post : Bool × Unit → Prop) : fnEval Rax_law17_TracerKeeps Rahn_law17_TracerKeeps Tryd.f6.ntmps Tryd.f6.results.toList (Tryd.f6.body.getD .skip) [.int .i64, .slice (.int .i64), .slice (.int .i64), .slice (.int .i64)] [.snap .bool] (n, s, t, f, ()) post = Fx_law17_TracerKeeps 2 n s t f post := by kernel_rfl
theorem Rah_law17_TracerKeeps : Raq_law17_TracerKeeps.holds Tryd.prog RaG 6 :=
  detP Rax_law17_TracerKeeps_ok Ramixed Rahn_law17_TracerKeeps Raat_law17_TracerKeeps (F := fun x post => Fx_law17_TracerKeeps 2 x.1 x.2.1 x.2.2.1 x.2.2.2.1 post) (fun x post => Raeq_law17_TracerKeeps x.1 x.2.1 x.2.2.1 x.2.2.2.1 post) fun x h w => Lx_law17_TracerKeeps 2 x.1 x.2.1 x.2.2.1 x.2.2.2.1 h w
end Go.Lift

namespace Go.Proofs.YtplhligfkbgllaaDoor
open Go.Lift
theorem tracerKeeps_law : LawSpec Rows.tracerKeepsSpec 4 := ⟨rfl, fun H ds h => by
  match ds, h with
  | [d1, d2, d3, d4], _ => rfl⟩
set_option maxRecDepth 100000 in
theorem tracerKeeps_lifted (os : Os) (started : os.Started) (H : Type) (enc : TypeId × Value → H) :
    ReturnsInHanded {} Tryd.checked os 6 .any (fun w args => (Rows.tracerKeepsSpec.pre enc Tryd.prog Tryd.f6 [] false w args ∧ laidMetH Tryd.prog laidL w) ∧ sizedMet enc Tryd.prog Tryd.f6 (OpenSpec.ofChange Rows.tracerKeepsSpec) false w args) (Rows.tracerKeepsSpec.post enc Tryd.prog Tryd.f6 false true false false) :=
  law_laid (C := Tryd.checked) (X := fun w _ => laidMetH Tryd.prog laidL w) (fun _ _ _ hh h => h.of_heap hh) (fun w _ h => laid_globs w h) own started (by kernel_rfl) Tryd.func6 rfl (by decide)
    (ChangeSpec.witness_shaped (enc := enc) (C := Tryd.checked) (os := os) (X := fun w _ => laidMetH Tryd.prog laidL w) false (World.doorLaid Tryd.prog 400 os) #[.int .i64 0, .slice none 0 0, .slice none 0 0, .slice none 0 0] 12 rfl (World.shaped_of_RefB (by kernel_rfl) (by kernel_rfl)) (by kernel_rfl) (by kernel_rfl) (by kernel_rfl) (door_met os _))
    laidOut (ktsB_sound _ [.int .i64, .slice (.int .i64), .slice (.int .i64), .slice (.int .i64)] (by kernel_rfl)) (by decide +kernel) rfl (by kernel_rfl) tracerKeeps_law Rah_law17_TracerKeeps (fun x h w => ⟨rngI h.1, fun y hy => rngI (h.2.1 y hy), fun y hy => rngI (h.2.2.1 y hy), fun y hy => rngI (h.2.2.2.1 y hy)⟩)
theorem tracerKeeps_holds : Rows.TracerKeepsSaid :=
  OpenClaim.holds_of_wide 6 Tryd.f6 rfl rfl rfl rfl rfl rfl rfl ⟨rfl, rfl, rfl, rfl, rfl⟩ rfl rfl rfl rfl rfl (by kernel_rfl) Tryd.func6 (by kernel_rfl)
    (of_decide_eq_true (by kernel_rfl)) (by unfold Func.isWrapper; first | (rw [if_pos (by decide +kernel)]; kernel_rfl) | (rw [if_neg (by decide +kernel)]; exact ⟨rfl, rfl⟩))
    (fun os started H enc _ => tracerKeeps_lifted os started H enc)
theorem tracerKeeps_card : Rows.TracerKeepsCardSaid :=
  Claim7.holds_tied_plain_at .later [] [.wider, .data] true (true, "c97551f0cd5fdcbd5ed79705f5dbadfdaba6e2ea34cf47eff0f15d8490674765") false
    tracerKeeps_holds (fun _ h => by cases h) (by kernel_rfl) (fun _ h => by cases h) tracerKeeps_row_tie rfl ⟨rfl, rfl⟩ (by kernel_rfl) rfl
    (fun f fn hf hfn => by
      obtain rfl : f = 6 := Option.some.inj ((show Tryd.prog.funcNamed "tarn/tarnlaw17.TracerKeeps" = some 6 by kernel_rfl).symm.trans hf) |>.symm
      obtain rfl : fn = Tryd.f6 := (Option.some.inj (Tryd.func6.symm.trans hfn)).symm
      exact ⟨by kernel_rfl, fun j t ht => by
        rw [Tryd.params6] at ht
        have hm : t ∈ [3, 22, 22, 22] := by simpa using Array.mem_of_getElem? ht
        have hall : ([3, 22, 22, 22].all fun u => !Tryd.prog.wantsStandIn u) = true := by kernel_rfl
        exact (show Tryd.prog.wantsStandIn t = false by simpa using List.all_eq_true.1 hall t hm)⟩)
    (by kernel_rfl)
end Go.Proofs.YtplhligfkbgllaaDoor
