/- A part of the proof of TracerFlowsCard: an own lifter of code into plain terms, and plain laws. -/
import Derived.Test.YtplhligfkbgllaaGreatDoorPtE
set_option linter.unusedVariables false
set_option linter.unusedSimpArgs false
set_option linter.unusedSectionVars false
set_option linter.unusedVariables false
set_option linter.unusedSimpArgs false
namespace Go.Lift
def Fx_geom_ratio := fun (a b : Int) (post : Nat × Unit → Prop) => ∀ (a_1 : Nat), FRes Go.FloatKind.f64 (Go.FloatKind.f64.format.div (Go.FloatKind.f64.nearest a)
  (Go.FloatKind.f64.nearest b)) a_1 → post (a_1, ())
theorem Lx_geom_ratio (a : Int) (b : Int) (h : WRatio a b) : Fx_geom_ratio  a b (fun r => r = ratioR a b) := by
  intro r hr
  exact congrArg r1 (div_ofI h.1 h.2.1 h.2.2 hr)
def Fx_geom_point := fun (ty72 ty98 : Nat) (f : Int) (s t : Nat) (post : (Nat × Nat × Nat) × Unit → Prop) => ∃ (post_1 : Unit → List Nat × Unit → Prop), (∃ (h : (0 : Int) ≤ (0 :
  Int) ∧ (0 : Int) < (↑(3 : Nat) : Int)), ∃ (h : (0 : Int) ≤ f ∧ f < (↑(6 : Nat) : Int)), ∃ (h : (0 : Int) ≤ (0 : Int) ∧ (0 : Int) < (↑(3 : Nat) : Int)), ∃ (h : (0 : Int) ≤ (0 :
  Int) ∧ (0 : Int) < (↑(3 : Nat) : Int)), Br (List.getD (List.getD (framesL.getD f.toNat (K.arr (3 : Nat) (K.arr (3 : Nat) (K.int IntKind.i64))).dflt) (Int.toNat (0 : Int)) (K.arr
  (3 : Nat) (K.int IntKind.i64)).dflt) (Int.toNat (0 : Int)) (0 : Int) == (1 : Int)) (∃ (h : True), ∃ (h : (0 : Int) ≤ (0 : Int) ∧ (0 : Int) < (↑(3 : Nat) : Int) ∧ (3 : Nat) ≤
  (List.replicate (3 : Nat) (0 : Nat)).length), HIs [HObj.box Md.rw ty72 [SV.val (Go.Value.float Go.FloatKind.f64 (0 : Nat)), SV.val (Go.Value.float Go.FloatKind.f64 (0 : Nat)),
  SV.val (Go.Value.float Go.FloatKind.f64 (0 : Nat))], HObj.row Md.rw ty98 (K.flt Go.FloatKind.f64) ((List.replicate (3 : Nat) (0 : Nat)).set (Int.toNat (0 : Int)) (canonR
  ([(4607182418800017408 : Nat), s, t].getD (Int.toNat (0 : Int)) (0 : Nat))).fst)] [HObj.box Md.rw ty72 [SV.val (Go.Value.float Go.FloatKind.f64 (0 : Nat)), SV.val (Go.Value.float
  Go.FloatKind.f64 (0 : Nat)), SV.val (Go.Value.float Go.FloatKind.f64 (0 : Nat))], HObj.row Md.rw ty98 (K.flt Go.FloatKind.f64) ((List.replicate (3 : Nat) (0 : Nat)).set (Int.toNat
  (0 : Int)) (canonR ([(4607182418800017408 : Nat), s, t].getD (Int.toNat (0 : Int)) (0 : Nat))).fst)] ∧ post_1 () ((List.replicate (3 : Nat) (0 : Nat)).set (Int.toNat (0 : Int))
  (canonR ([(4607182418800017408 : Nat), s, t].getD (Int.toNat (0 : Int)) (0 : Nat))).fst, ())) (Br (List.getD (List.getD (framesL.getD f.toNat (K.arr (3 : Nat) (K.arr (3 : Nat)
  (K.int IntKind.i64))).dflt) (Int.toNat (0 : Int)) (K.arr (3 : Nat) (K.int IntKind.i64)).dflt) (Int.toNat (0 : Int)) (0 : Int) == (-1 : Int)) (∃ (h : True), ∃ (h : (0 : Int) ≤ (0 :
  Int) ∧ (0 : Int) < (↑(3 : Nat) : Int) ∧ (3 : Nat) ≤ (List.replicate (3 : Nat) (0 : Nat)).length), HIs [HObj.box Md.rw ty72 [SV.val (Go.Value.float Go.FloatKind.f64 (0 : Nat)),
  SV.val (Go.Value.float Go.FloatKind.f64 (0 : Nat)), SV.val (Go.Value.float Go.FloatKind.f64 (0 : Nat))], HObj.row Md.rw ty98 (K.flt Go.FloatKind.f64) ((List.replicate (3 : Nat) (0
  : Nat)).set (Int.toNat (0 : Int)) (canonR (Go.Op.negFloat Go.FloatKind.f64 ([(4607182418800017408 : Nat), s, t].getD (Int.toNat (0 : Int)) (0 : Nat)))).fst)] [HObj.box Md.rw ty72
  [SV.val (Go.Value.float Go.FloatKind.f64 (0 : Nat)), SV.val (Go.Value.float Go.FloatKind.f64 (0 : Nat)), SV.val (Go.Value.float Go.FloatKind.f64 (0 : Nat))], HObj.row Md.rw ty98
  (K.flt Go.FloatKind.f64) ((List.replicate (3 : Nat) (0 : Nat)).set (Int.toNat (0 : Int)) (canonR (Go.Op.negFloat Go.FloatKind.f64 ([(4607182418800017408 : Nat), s, t].getD
  (Int.toNat (0 : Int)) (0 : Nat)))).fst)] ∧ post_1 () ((List.replicate (3 : Nat) (0 : Nat)).set (Int.toNat (0 : Int)) (canonR (Go.Op.negFloat Go.FloatKind.f64
  ([(4607182418800017408 : Nat), s, t].getD (Int.toNat (0 : Int)) (0 : Nat)))).fst, ())) (HIs [HObj.box Md.rw ty72 [SV.val (Go.Value.float Go.FloatKind.f64 (0 : Nat)), SV.val
  (Go.Value.float Go.FloatKind.f64 (0 : Nat)), SV.val (Go.Value.float Go.FloatKind.f64 (0 : Nat))], HObj.row Md.rw ty98 (K.flt Go.FloatKind.f64) (List.replicate (3 : Nat) (0 :
  Nat))] [HObj.box Md.rw ty72 [SV.val (Go.Value.float Go.FloatKind.f64 (0 : Nat)), SV.val (Go.Value.float Go.FloatKind.f64 (0 : Nat)), SV.val (Go.Value.float Go.FloatKind.f64 (0 :
  Nat))], HObj.row Md.rw ty98 (K.flt Go.FloatKind.f64) (List.replicate (3 : Nat) (0 : Nat))] ∧ post_1 () (List.replicate (3 : Nat) (0 : Nat), ())))) ∧ ∀ (x : Unit) (y : List Nat ×
  Unit), post_1 x y → ∃ (post_2 : Unit → List Nat × Unit → Prop), (∃ (h : (0 : Int) ≤ IntKind.i64.wrap ((0 : Int) + (1 : Int)) ∧ IntKind.i64.wrap ((0 : Int) + (1 : Int)) < (↑(3 :
  Nat) : Int)), ∃ (h : (0 : Int) ≤ f ∧ f < (↑(6 : Nat) : Int)), ∃ (h : (0 : Int) ≤ IntKind.i64.wrap ((0 : Int) + (1 : Int)) ∧ IntKind.i64.wrap ((0 : Int) + (1 : Int)) < (↑(3 : Nat)
  : Int)), ∃ (h : (0 : Int) ≤ (0 : Int) ∧ (0 : Int) < (↑(3 : Nat) : Int)), Br (List.getD (List.getD (framesL.getD f.toNat (K.arr (3 : Nat) (K.arr (3 : Nat) (K.int
  IntKind.i64))).dflt) (IntKind.i64.wrap ((0 : Int) + (1 : Int))).toNat (K.arr (3 : Nat) (K.int IntKind.i64)).dflt) (Int.toNat (0 : Int)) (0 : Int) == (1 : Int)) (∃ (h : True), ∃ (h
  : (0 : Int) ≤ (0 : Int) ∧ (0 : Int) < (↑(3 : Nat) : Int) ∧ (3 : Nat) ≤ y.fst.length), HIs [HObj.box Md.rw ty72 [SV.val (Go.Value.float Go.FloatKind.f64 (0 : Nat)), SV.val
  (Go.Value.float Go.FloatKind.f64 (0 : Nat)), SV.val (Go.Value.float Go.FloatKind.f64 (0 : Nat))], HObj.row Md.rw ty98 (K.flt Go.FloatKind.f64) (y.fst.set (Int.toNat (0 : Int))
  (canonR ([(4607182418800017408 : Nat), s, t].getD (IntKind.i64.wrap ((0 : Int) + (1 : Int))).toNat (0 : Nat))).fst)] [HObj.box Md.rw ty72 [SV.val (Go.Value.float Go.FloatKind.f64
  (0 : Nat)), SV.val (Go.Value.float Go.FloatKind.f64 (0 : Nat)), SV.val (Go.Value.float Go.FloatKind.f64 (0 : Nat))], HObj.row Md.rw ty98 (K.flt Go.FloatKind.f64) (y.fst.set
  (Int.toNat (0 : Int)) (canonR ([(4607182418800017408 : Nat), s, t].getD (IntKind.i64.wrap ((0 : Int) + (1 : Int))).toNat (0 : Nat))).fst)] ∧ post_2 () (y.fst.set (Int.toNat (0 :
  Int)) (canonR ([(4607182418800017408 : Nat), s, t].getD (IntKind.i64.wrap ((0 : Int) + (1 : Int))).toNat (0 : Nat))).fst, ())) (Br (List.getD (List.getD (framesL.getD f.toNat
  (K.arr (3 : Nat) (K.arr (3 : Nat) (K.int IntKind.i64))).dflt) (IntKind.i64.wrap ((0 : Int) + (1 : Int))).toNat (K.arr (3 : Nat) (K.int IntKind.i64)).dflt) (Int.toNat (0 : Int)) (0
  : Int) == (-1 : Int)) (∃ (h : True), ∃ (h : (0 : Int) ≤ (0 : Int) ∧ (0 : Int) < (↑(3 : Nat) : Int) ∧ (3 : Nat) ≤ y.fst.length), HIs [HObj.box Md.rw ty72 [SV.val (Go.Value.float
  Go.FloatKind.f64 (0 : Nat)), SV.val (Go.Value.float Go.FloatKind.f64 (0 : Nat)), SV.val (Go.Value.float Go.FloatKind.f64 (0 : Nat))], HObj.row Md.rw ty98 (K.flt Go.FloatKind.f64)
  (y.fst.set (Int.toNat (0 : Int)) (canonR (Go.Op.negFloat Go.FloatKind.f64 ([(4607182418800017408 : Nat), s, t].getD (IntKind.i64.wrap ((0 : Int) + (1 : Int))).toNat (0 :
  Nat)))).fst)] [HObj.box Md.rw ty72 [SV.val (Go.Value.float Go.FloatKind.f64 (0 : Nat)), SV.val (Go.Value.float Go.FloatKind.f64 (0 : Nat)), SV.val (Go.Value.float Go.FloatKind.f64
  (0 : Nat))], HObj.row Md.rw ty98 (K.flt Go.FloatKind.f64) (y.fst.set (Int.toNat (0 : Int)) (canonR (Go.Op.negFloat Go.FloatKind.f64 ([(4607182418800017408 : Nat), s, t].getD
  (IntKind.i64.wrap ((0 : Int) + (1 : Int))).toNat (0 : Nat)))).fst)] ∧ post_2 () (y.fst.set (Int.toNat (0 : Int)) (canonR (Go.Op.negFloat Go.FloatKind.f64 ([(4607182418800017408 :
  Nat), s, t].getD (IntKind.i64.wrap ((0 : Int) + (1 : Int))).toNat (0 : Nat)))).fst, ())) (HIs [HObj.box Md.rw ty72 [SV.val (Go.Value.float Go.FloatKind.f64 (0 : Nat)), SV.val
  (Go.Value.float Go.FloatKind.f64 (0 : Nat)), SV.val (Go.Value.float Go.FloatKind.f64 (0 : Nat))], HObj.row Md.rw ty98 (K.flt Go.FloatKind.f64) y.fst] [HObj.box Md.rw ty72 [SV.val
  (Go.Value.float Go.FloatKind.f64 (0 : Nat)), SV.val (Go.Value.float Go.FloatKind.f64 (0 : Nat)), SV.val (Go.Value.float Go.FloatKind.f64 (0 : Nat))], HObj.row Md.rw ty98 (K.flt
  Go.FloatKind.f64) y.fst] ∧ post_2 () (y.fst, ())))) ∧ ∀ (x : Unit) (y : List Nat × Unit), post_2 x y → ∃ (post_3 : Unit → List Nat × Unit → Prop), (∃ (h : (0 : Int) ≤
  IntKind.i64.wrap (IntKind.i64.wrap ((0 : Int) + (1 : Int)) + (1 : Int)) ∧ IntKind.i64.wrap (IntKind.i64.wrap ((0 : Int) + (1 : Int)) + (1 : Int)) < (↑(3 : Nat) : Int)), ∃ (h : (0
  : Int) ≤ f ∧ f < (↑(6 : Nat) : Int)), ∃ (h : (0 : Int) ≤ IntKind.i64.wrap (IntKind.i64.wrap ((0 : Int) + (1 : Int)) + (1 : Int)) ∧ IntKind.i64.wrap (IntKind.i64.wrap ((0 : Int) +
  (1 : Int)) + (1 : Int)) < (↑(3 : Nat) : Int)), ∃ (h : (0 : Int) ≤ (0 : Int) ∧ (0 : Int) < (↑(3 : Nat) : Int)), Br (List.getD (List.getD (framesL.getD f.toNat (K.arr (3 : Nat)
  (K.arr (3 : Nat) (K.int IntKind.i64))).dflt) (IntKind.i64.wrap (IntKind.i64.wrap ((0 : Int) + (1 : Int)) + (1 : Int))).toNat (K.arr (3 : Nat) (K.int IntKind.i64)).dflt) (Int.toNat
  (0 : Int)) (0 : Int) == (1 : Int)) (∃ (h : True), ∃ (h : (0 : Int) ≤ (0 : Int) ∧ (0 : Int) < (↑(3 : Nat) : Int) ∧ (3 : Nat) ≤ y.fst.length), HIs [HObj.box Md.rw ty72 [SV.val
  (Go.Value.float Go.FloatKind.f64 (0 : Nat)), SV.val (Go.Value.float Go.FloatKind.f64 (0 : Nat)), SV.val (Go.Value.float Go.FloatKind.f64 (0 : Nat))], HObj.row Md.rw ty98 (K.flt
  Go.FloatKind.f64) (y.fst.set (Int.toNat (0 : Int)) (canonR ([(4607182418800017408 : Nat), s, t].getD (IntKind.i64.wrap (IntKind.i64.wrap ((0 : Int) + (1 : Int)) + (1 :
  Int))).toNat (0 : Nat))).fst)] [HObj.box Md.rw ty72 [SV.val (Go.Value.float Go.FloatKind.f64 (0 : Nat)), SV.val (Go.Value.float Go.FloatKind.f64 (0 : Nat)), SV.val (Go.Value.float
  Go.FloatKind.f64 (0 : Nat))], HObj.row Md.rw ty98 (K.flt Go.FloatKind.f64) (y.fst.set (Int.toNat (0 : Int)) (canonR ([(4607182418800017408 : Nat), s, t].getD (IntKind.i64.wrap
  (IntKind.i64.wrap ((0 : Int) + (1 : Int)) + (1 : Int))).toNat (0 : Nat))).fst)] ∧ post_3 () (y.fst.set (Int.toNat (0 : Int)) (canonR ([(4607182418800017408 : Nat), s, t].getD
  (IntKind.i64.wrap (IntKind.i64.wrap ((0 : Int) + (1 : Int)) + (1 : Int))).toNat (0 : Nat))).fst, ())) (Br (List.getD (List.getD (framesL.getD f.toNat (K.arr (3 : Nat) (K.arr (3 :
  Nat) (K.int IntKind.i64))).dflt) (IntKind.i64.wrap (IntKind.i64.wrap ((0 : Int) + (1 : Int)) + (1 : Int))).toNat (K.arr (3 : Nat) (K.int IntKind.i64)).dflt) (Int.toNat (0 : Int))
  (0 : Int) == (-1 : Int)) (∃ (h : True), ∃ (h : (0 : Int) ≤ (0 : Int) ∧ (0 : Int) < (↑(3 : Nat) : Int) ∧ (3 : Nat) ≤ y.fst.length), HIs [HObj.box Md.rw ty72 [SV.val (Go.Value.float
  Go.FloatKind.f64 (0 : Nat)), SV.val (Go.Value.float Go.FloatKind.f64 (0 : Nat)), SV.val (Go.Value.float Go.FloatKind.f64 (0 : Nat))], HObj.row Md.rw ty98 (K.flt Go.FloatKind.f64)
  (y.fst.set (Int.toNat (0 : Int)) (canonR (Go.Op.negFloat Go.FloatKind.f64 ([(4607182418800017408 : Nat), s, t].getD (IntKind.i64.wrap (IntKind.i64.wrap ((0 : Int) + (1 : Int)) +
  (1 : Int))).toNat (0 : Nat)))).fst)] [HObj.box Md.rw ty72 [SV.val (Go.Value.float Go.FloatKind.f64 (0 : Nat)), SV.val (Go.Value.float Go.FloatKind.f64 (0 : Nat)), SV.val
  (Go.Value.float Go.FloatKind.f64 (0 : Nat))], HObj.row Md.rw ty98 (K.flt Go.FloatKind.f64) (y.fst.set (Int.toNat (0 : Int)) (canonR (Go.Op.negFloat Go.FloatKind.f64
  ([(4607182418800017408 : Nat), s, t].getD (IntKind.i64.wrap (IntKind.i64.wrap ((0 : Int) + (1 : Int)) + (1 : Int))).toNat (0 : Nat)))).fst)] ∧ post_3 () (y.fst.set (Int.toNat (0 :
  Int)) (canonR (Go.Op.negFloat Go.FloatKind.f64 ([(4607182418800017408 : Nat), s, t].getD (IntKind.i64.wrap (IntKind.i64.wrap ((0 : Int) + (1 : Int)) + (1 : Int))).toNat (0 :
  Nat)))).fst, ())) (HIs [HObj.box Md.rw ty72 [SV.val (Go.Value.float Go.FloatKind.f64 (0 : Nat)), SV.val (Go.Value.float Go.FloatKind.f64 (0 : Nat)), SV.val (Go.Value.float
  Go.FloatKind.f64 (0 : Nat))], HObj.row Md.rw ty98 (K.flt Go.FloatKind.f64) y.fst] [HObj.box Md.rw ty72 [SV.val (Go.Value.float Go.FloatKind.f64 (0 : Nat)), SV.val (Go.Value.float
  Go.FloatKind.f64 (0 : Nat)), SV.val (Go.Value.float Go.FloatKind.f64 (0 : Nat))], HObj.row Md.rw ty98 (K.flt Go.FloatKind.f64) y.fst] ∧ post_3 () (y.fst, ())))) ∧ ∀ (x : Unit) (y
  : List Nat × Unit), post_3 x y → ∃ (post_4 : Unit → List Nat × Unit → Prop), (∃ (h : (0 : Int) ≤ (0 : Int) ∧ (0 : Int) < (↑(3 : Nat) : Int)), ∃ (h : (0 : Int) ≤ f ∧ f < (↑(6 :
  Nat) : Int)), ∃ (h : (0 : Int) ≤ (0 : Int) ∧ (0 : Int) < (↑(3 : Nat) : Int)), ∃ (h : (0 : Int) ≤ IntKind.i64.wrap ((0 : Int) + (1 : Int)) ∧ IntKind.i64.wrap ((0 : Int) + (1 :
  Int)) < (↑(3 : Nat) : Int)), Br (List.getD (List.getD (framesL.getD f.toNat (K.arr (3 : Nat) (K.arr (3 : Nat) (K.int IntKind.i64))).dflt) (Int.toNat (0 : Int)) (K.arr (3 : Nat)
  (K.int IntKind.i64)).dflt) (IntKind.i64.wrap ((0 : Int) + (1 : Int))).toNat (0 : Int) == (1 : Int)) (∃ (h : True), ∃ (h : (0 : Int) ≤ IntKind.i64.wrap ((0 : Int) + (1 : Int)) ∧
  IntKind.i64.wrap ((0 : Int) + (1 : Int)) < (↑(3 : Nat) : Int) ∧ (3 : Nat) ≤ y.fst.length), HIs [HObj.box Md.rw ty72 [SV.val (Go.Value.float Go.FloatKind.f64 (0 : Nat)), SV.val
  (Go.Value.float Go.FloatKind.f64 (0 : Nat)), SV.val (Go.Value.float Go.FloatKind.f64 (0 : Nat))], HObj.row Md.rw ty98 (K.flt Go.FloatKind.f64) (y.fst.set (IntKind.i64.wrap ((0 :
  Int) + (1 : Int))).toNat (canonR ([(4607182418800017408 : Nat), s, t].getD (Int.toNat (0 : Int)) (0 : Nat))).fst)] [HObj.box Md.rw ty72 [SV.val (Go.Value.float Go.FloatKind.f64 (0
  : Nat)), SV.val (Go.Value.float Go.FloatKind.f64 (0 : Nat)), SV.val (Go.Value.float Go.FloatKind.f64 (0 : Nat))], HObj.row Md.rw ty98 (K.flt Go.FloatKind.f64) (y.fst.set
  (IntKind.i64.wrap ((0 : Int) + (1 : Int))).toNat (canonR ([(4607182418800017408 : Nat), s, t].getD (Int.toNat (0 : Int)) (0 : Nat))).fst)] ∧ post_4 () (y.fst.set (IntKind.i64.wrap
  ((0 : Int) + (1 : Int))).toNat (canonR ([(4607182418800017408 : Nat), s, t].getD (Int.toNat (0 : Int)) (0 : Nat))).fst, ())) (Br (List.getD (List.getD (framesL.getD f.toNat (K.arr
  (3 : Nat) (K.arr (3 : Nat) (K.int IntKind.i64))).dflt) (Int.toNat (0 : Int)) (K.arr (3 : Nat) (K.int IntKind.i64)).dflt) (IntKind.i64.wrap ((0 : Int) + (1 : Int))).toNat (0 : Int)
  == (-1 : Int)) (∃ (h : True), ∃ (h : (0 : Int) ≤ IntKind.i64.wrap ((0 : Int) + (1 : Int)) ∧ IntKind.i64.wrap ((0 : Int) + (1 : Int)) < (↑(3 : Nat) : Int) ∧ (3 : Nat) ≤
  y.fst.length), HIs [HObj.box Md.rw ty72 [SV.val (Go.Value.float Go.FloatKind.f64 (0 : Nat)), SV.val (Go.Value.float Go.FloatKind.f64 (0 : Nat)), SV.val (Go.Value.float
  Go.FloatKind.f64 (0 : Nat))], HObj.row Md.rw ty98 (K.flt Go.FloatKind.f64) (y.fst.set (IntKind.i64.wrap ((0 : Int) + (1 : Int))).toNat (canonR (Go.Op.negFloat Go.FloatKind.f64
  ([(4607182418800017408 : Nat), s, t].getD (Int.toNat (0 : Int)) (0 : Nat)))).fst)] [HObj.box Md.rw ty72 [SV.val (Go.Value.float Go.FloatKind.f64 (0 : Nat)), SV.val (Go.Value.float
  Go.FloatKind.f64 (0 : Nat)), SV.val (Go.Value.float Go.FloatKind.f64 (0 : Nat))], HObj.row Md.rw ty98 (K.flt Go.FloatKind.f64) (y.fst.set (IntKind.i64.wrap ((0 : Int) + (1 :
  Int))).toNat (canonR (Go.Op.negFloat Go.FloatKind.f64 ([(4607182418800017408 : Nat), s, t].getD (Int.toNat (0 : Int)) (0 : Nat)))).fst)] ∧ post_4 () (y.fst.set (IntKind.i64.wrap
  ((0 : Int) + (1 : Int))).toNat (canonR (Go.Op.negFloat Go.FloatKind.f64 ([(4607182418800017408 : Nat), s, t].getD (Int.toNat (0 : Int)) (0 : Nat)))).fst, ())) (HIs [HObj.box Md.rw
  ty72 [SV.val (Go.Value.float Go.FloatKind.f64 (0 : Nat)), SV.val (Go.Value.float Go.FloatKind.f64 (0 : Nat)), SV.val (Go.Value.float Go.FloatKind.f64 (0 : Nat))], HObj.row Md.rw
  ty98 (K.flt Go.FloatKind.f64) y.fst] [HObj.box Md.rw ty72 [SV.val (Go.Value.float Go.FloatKind.f64 (0 : Nat)), SV.val (Go.Value.float Go.FloatKind.f64 (0 : Nat)), SV.val
  (Go.Value.float Go.FloatKind.f64 (0 : Nat))], HObj.row Md.rw ty98 (K.flt Go.FloatKind.f64) y.fst] ∧ post_4 () (y.fst, ())))) ∧ ∀ (x : Unit) (y : List Nat × Unit), post_4 x y → ∃
  (post_5 : Unit → List Nat × Unit → Prop), (∃ (h : (0 : Int) ≤ IntKind.i64.wrap ((0 : Int) + (1 : Int)) ∧ IntKind.i64.wrap ((0 : Int) + (1 : Int)) < (↑(3 : Nat) : Int)), ∃ (h : (0
  : Int) ≤ f ∧ f < (↑(6 : Nat) : Int)), ∃ (h : (0 : Int) ≤ IntKind.i64.wrap ((0 : Int) + (1 : Int)) ∧ IntKind.i64.wrap ((0 : Int) + (1 : Int)) < (↑(3 : Nat) : Int)), ∃ (h : (0 :
  Int) ≤ IntKind.i64.wrap ((0 : Int) + (1 : Int)) ∧ IntKind.i64.wrap ((0 : Int) + (1 : Int)) < (↑(3 : Nat) : Int)), Br (List.getD (List.getD (framesL.getD f.toNat (K.arr (3 : Nat)
  (K.arr (3 : Nat) (K.int IntKind.i64))).dflt) (IntKind.i64.wrap ((0 : Int) + (1 : Int))).toNat (K.arr (3 : Nat) (K.int IntKind.i64)).dflt) (IntKind.i64.wrap ((0 : Int) + (1 :
  Int))).toNat (0 : Int) == (1 : Int)) (∃ (h : True), ∃ (h : (0 : Int) ≤ IntKind.i64.wrap ((0 : Int) + (1 : Int)) ∧ IntKind.i64.wrap ((0 : Int) + (1 : Int)) < (↑(3 : Nat) : Int) ∧
  (3 : Nat) ≤ y.fst.length), HIs [HObj.box Md.rw ty72 [SV.val (Go.Value.float Go.FloatKind.f64 (0 : Nat)), SV.val (Go.Value.float Go.FloatKind.f64 (0 : Nat)), SV.val (Go.Value.float
  Go.FloatKind.f64 (0 : Nat))], HObj.row Md.rw ty98 (K.flt Go.FloatKind.f64) (y.fst.set (IntKind.i64.wrap ((0 : Int) + (1 : Int))).toNat (canonR ([(4607182418800017408 : Nat), s,
  t].getD (IntKind.i64.wrap ((0 : Int) + (1 : Int))).toNat (0 : Nat))).fst)] [HObj.box Md.rw ty72 [SV.val (Go.Value.float Go.FloatKind.f64 (0 : Nat)), SV.val (Go.Value.float
  Go.FloatKind.f64 (0 : Nat)), SV.val (Go.Value.float Go.FloatKind.f64 (0 : Nat))], HObj.row Md.rw ty98 (K.flt Go.FloatKind.f64) (y.fst.set (IntKind.i64.wrap ((0 : Int) + (1 :
  Int))).toNat (canonR ([(4607182418800017408 : Nat), s, t].getD (IntKind.i64.wrap ((0 : Int) + (1 : Int))).toNat (0 : Nat))).fst)] ∧ post_5 () (y.fst.set (IntKind.i64.wrap ((0 :
  Int) + (1 : Int))).toNat (canonR ([(4607182418800017408 : Nat), s, t].getD (IntKind.i64.wrap ((0 : Int) + (1 : Int))).toNat (0 : Nat))).fst, ())) (Br (List.getD (List.getD
  (framesL.getD f.toNat (K.arr (3 : Nat) (K.arr (3 : Nat) (K.int IntKind.i64))).dflt) (IntKind.i64.wrap ((0 : Int) + (1 : Int))).toNat (K.arr (3 : Nat) (K.int IntKind.i64)).dflt)
  (IntKind.i64.wrap ((0 : Int) + (1 : Int))).toNat (0 : Int) == (-1 : Int)) (∃ (h : True), ∃ (h : (0 : Int) ≤ IntKind.i64.wrap ((0 : Int) + (1 : Int)) ∧ IntKind.i64.wrap ((0 : Int)
  + (1 : Int)) < (↑(3 : Nat) : Int) ∧ (3 : Nat) ≤ y.fst.length), HIs [HObj.box Md.rw ty72 [SV.val (Go.Value.float Go.FloatKind.f64 (0 : Nat)), SV.val (Go.Value.float
  Go.FloatKind.f64 (0 : Nat)), SV.val (Go.Value.float Go.FloatKind.f64 (0 : Nat))], HObj.row Md.rw ty98 (K.flt Go.FloatKind.f64) (y.fst.set (IntKind.i64.wrap ((0 : Int) + (1 :
  Int))).toNat (canonR (Go.Op.negFloat Go.FloatKind.f64 ([(4607182418800017408 : Nat), s, t].getD (IntKind.i64.wrap ((0 : Int) + (1 : Int))).toNat (0 : Nat)))).fst)] [HObj.box Md.rw
  ty72 [SV.val (Go.Value.float Go.FloatKind.f64 (0 : Nat)), SV.val (Go.Value.float Go.FloatKind.f64 (0 : Nat)), SV.val (Go.Value.float Go.FloatKind.f64 (0 : Nat))], HObj.row Md.rw
  ty98 (K.flt Go.FloatKind.f64) (y.fst.set (IntKind.i64.wrap ((0 : Int) + (1 : Int))).toNat (canonR (Go.Op.negFloat Go.FloatKind.f64 ([(4607182418800017408 : Nat), s, t].getD
  (IntKind.i64.wrap ((0 : Int) + (1 : Int))).toNat (0 : Nat)))).fst)] ∧ post_5 () (y.fst.set (IntKind.i64.wrap ((0 : Int) + (1 : Int))).toNat (canonR (Go.Op.negFloat
  Go.FloatKind.f64 ([(4607182418800017408 : Nat), s, t].getD (IntKind.i64.wrap ((0 : Int) + (1 : Int))).toNat (0 : Nat)))).fst, ())) (HIs [HObj.box Md.rw ty72 [SV.val
  (Go.Value.float Go.FloatKind.f64 (0 : Nat)), SV.val (Go.Value.float Go.FloatKind.f64 (0 : Nat)), SV.val (Go.Value.float Go.FloatKind.f64 (0 : Nat))], HObj.row Md.rw ty98 (K.flt
  Go.FloatKind.f64) y.fst] [HObj.box Md.rw ty72 [SV.val (Go.Value.float Go.FloatKind.f64 (0 : Nat)), SV.val (Go.Value.float Go.FloatKind.f64 (0 : Nat)), SV.val (Go.Value.float
  Go.FloatKind.f64 (0 : Nat))], HObj.row Md.rw ty98 (K.flt Go.FloatKind.f64) y.fst] ∧ post_5 () (y.fst, ())))) ∧ ∀ (x : Unit) (y : List Nat × Unit), post_5 x y → ∃ (post_6 : Unit →
  List Nat × Unit → Prop), (∃ (h : (0 : Int) ≤ IntKind.i64.wrap (IntKind.i64.wrap ((0 : Int) + (1 : Int)) + (1 : Int)) ∧ IntKind.i64.wrap (IntKind.i64.wrap ((0 : Int) + (1 : Int)) +
  (1 : Int)) < (↑(3 : Nat) : Int)), ∃ (h : (0 : Int) ≤ f ∧ f < (↑(6 : Nat) : Int)), ∃ (h : (0 : Int) ≤ IntKind.i64.wrap (IntKind.i64.wrap ((0 : Int) + (1 : Int)) + (1 : Int)) ∧
  IntKind.i64.wrap (IntKind.i64.wrap ((0 : Int) + (1 : Int)) + (1 : Int)) < (↑(3 : Nat) : Int)), ∃ (h : (0 : Int) ≤ IntKind.i64.wrap ((0 : Int) + (1 : Int)) ∧ IntKind.i64.wrap ((0 :
  Int) + (1 : Int)) < (↑(3 : Nat) : Int)), Br (List.getD (List.getD (framesL.getD f.toNat (K.arr (3 : Nat) (K.arr (3 : Nat) (K.int IntKind.i64))).dflt) (IntKind.i64.wrap
  (IntKind.i64.wrap ((0 : Int) + (1 : Int)) + (1 : Int))).toNat (K.arr (3 : Nat) (K.int IntKind.i64)).dflt) (IntKind.i64.wrap ((0 : Int) + (1 : Int))).toNat (0 : Int) == (1 : Int))
  (∃ (h : True), ∃ (h : (0 : Int) ≤ IntKind.i64.wrap ((0 : Int) + (1 : Int)) ∧ IntKind.i64.wrap ((0 : Int) + (1 : Int)) < (↑(3 : Nat) : Int) ∧ (3 : Nat) ≤ y.fst.length), HIs
  [HObj.box Md.rw ty72 [SV.val (Go.Value.float Go.FloatKind.f64 (0 : Nat)), SV.val (Go.Value.float Go.FloatKind.f64 (0 : Nat)), SV.val (Go.Value.float Go.FloatKind.f64 (0 : Nat))],
  HObj.row Md.rw ty98 (K.flt Go.FloatKind.f64) (y.fst.set (IntKind.i64.wrap ((0 : Int) + (1 : Int))).toNat (canonR ([(4607182418800017408 : Nat), s, t].getD (IntKind.i64.wrap
  (IntKind.i64.wrap ((0 : Int) + (1 : Int)) + (1 : Int))).toNat (0 : Nat))).fst)] [HObj.box Md.rw ty72 [SV.val (Go.Value.float Go.FloatKind.f64 (0 : Nat)), SV.val (Go.Value.float
  Go.FloatKind.f64 (0 : Nat)), SV.val (Go.Value.float Go.FloatKind.f64 (0 : Nat))], HObj.row Md.rw ty98 (K.flt Go.FloatKind.f64) (y.fst.set (IntKind.i64.wrap ((0 : Int) + (1 :
  Int))).toNat (canonR ([(4607182418800017408 : Nat), s, t].getD (IntKind.i64.wrap (IntKind.i64.wrap ((0 : Int) + (1 : Int)) + (1 : Int))).toNat (0 : Nat))).fst)] ∧ post_6 ()
  (y.fst.set (IntKind.i64.wrap ((0 : Int) + (1 : Int))).toNat (canonR ([(4607182418800017408 : Nat), s, t].getD (IntKind.i64.wrap (IntKind.i64.wrap ((0 : Int) + (1 : Int)) + (1 :
  Int))).toNat (0 : Nat))).fst, ())) (Br (List.getD (List.getD (framesL.getD f.toNat (K.arr (3 : Nat) (K.arr (3 : Nat) (K.int IntKind.i64))).dflt) (IntKind.i64.wrap
  (IntKind.i64.wrap ((0 : Int) + (1 : Int)) + (1 : Int))).toNat (K.arr (3 : Nat) (K.int IntKind.i64)).dflt) (IntKind.i64.wrap ((0 : Int) + (1 : Int))).toNat (0 : Int) == (-1 : Int))
  (∃ (h : True), ∃ (h : (0 : Int) ≤ IntKind.i64.wrap ((0 : Int) + (1 : Int)) ∧ IntKind.i64.wrap ((0 : Int) + (1 : Int)) < (↑(3 : Nat) : Int) ∧ (3 : Nat) ≤ y.fst.length), HIs
  [HObj.box Md.rw ty72 [SV.val (Go.Value.float Go.FloatKind.f64 (0 : Nat)), SV.val (Go.Value.float Go.FloatKind.f64 (0 : Nat)), SV.val (Go.Value.float Go.FloatKind.f64 (0 : Nat))],
  HObj.row Md.rw ty98 (K.flt Go.FloatKind.f64) (y.fst.set (IntKind.i64.wrap ((0 : Int) + (1 : Int))).toNat (canonR (Go.Op.negFloat Go.FloatKind.f64 ([(4607182418800017408 : Nat), s,
  t].getD (IntKind.i64.wrap (IntKind.i64.wrap ((0 : Int) + (1 : Int)) + (1 : Int))).toNat (0 : Nat)))).fst)] [HObj.box Md.rw ty72 [SV.val (Go.Value.float Go.FloatKind.f64 (0 :
  Nat)), SV.val (Go.Value.float Go.FloatKind.f64 (0 : Nat)), SV.val (Go.Value.float Go.FloatKind.f64 (0 : Nat))], HObj.row Md.rw ty98 (K.flt Go.FloatKind.f64) (y.fst.set
  (IntKind.i64.wrap ((0 : Int) + (1 : Int))).toNat (canonR (Go.Op.negFloat Go.FloatKind.f64 ([(4607182418800017408 : Nat), s, t].getD (IntKind.i64.wrap (IntKind.i64.wrap ((0 : Int)
  + (1 : Int)) + (1 : Int))).toNat (0 : Nat)))).fst)] ∧ post_6 () (y.fst.set (IntKind.i64.wrap ((0 : Int) + (1 : Int))).toNat (canonR (Go.Op.negFloat Go.FloatKind.f64
  ([(4607182418800017408 : Nat), s, t].getD (IntKind.i64.wrap (IntKind.i64.wrap ((0 : Int) + (1 : Int)) + (1 : Int))).toNat (0 : Nat)))).fst, ())) (HIs [HObj.box Md.rw ty72 [SV.val
  (Go.Value.float Go.FloatKind.f64 (0 : Nat)), SV.val (Go.Value.float Go.FloatKind.f64 (0 : Nat)), SV.val (Go.Value.float Go.FloatKind.f64 (0 : Nat))], HObj.row Md.rw ty98 (K.flt
  Go.FloatKind.f64) y.fst] [HObj.box Md.rw ty72 [SV.val (Go.Value.float Go.FloatKind.f64 (0 : Nat)), SV.val (Go.Value.float Go.FloatKind.f64 (0 : Nat)), SV.val (Go.Value.float
  Go.FloatKind.f64 (0 : Nat))], HObj.row Md.rw ty98 (K.flt Go.FloatKind.f64) y.fst] ∧ post_6 () (y.fst, ())))) ∧ ∀ (x : Unit) (y : List Nat × Unit), post_6 x y → ∃ (post_7 : Unit →
  List Nat × Unit → Prop), (∃ (h : (0 : Int) ≤ (0 : Int) ∧ (0 : Int) < (↑(3 : Nat) : Int)), ∃ (h : (0 : Int) ≤ f ∧ f < (↑(6 : Nat) : Int)), ∃ (h : (0 : Int) ≤ (0 : Int) ∧ (0 : Int)
  < (↑(3 : Nat) : Int)), ∃ (h : (0 : Int) ≤ IntKind.i64.wrap (IntKind.i64.wrap ((0 : Int) + (1 : Int)) + (1 : Int)) ∧ IntKind.i64.wrap (IntKind.i64.wrap ((0 : Int) + (1 : Int)) + (1
  : Int)) < (↑(3 : Nat) : Int)), Br (List.getD (List.getD (framesL.getD f.toNat (K.arr (3 : Nat) (K.arr (3 : Nat) (K.int IntKind.i64))).dflt) (Int.toNat (0 : Int)) (K.arr (3 : Nat)
  (K.int IntKind.i64)).dflt) (IntKind.i64.wrap (IntKind.i64.wrap ((0 : Int) + (1 : Int)) + (1 : Int))).toNat (0 : Int) == (1 : Int)) (∃ (h : True), ∃ (h : (0 : Int) ≤
  IntKind.i64.wrap (IntKind.i64.wrap ((0 : Int) + (1 : Int)) + (1 : Int)) ∧ IntKind.i64.wrap (IntKind.i64.wrap ((0 : Int) + (1 : Int)) + (1 : Int)) < (↑(3 : Nat) : Int) ∧ (3 : Nat)
  ≤ y.fst.length), HIs [HObj.box Md.rw ty72 [SV.val (Go.Value.float Go.FloatKind.f64 (0 : Nat)), SV.val (Go.Value.float Go.FloatKind.f64 (0 : Nat)), SV.val (Go.Value.float
  Go.FloatKind.f64 (0 : Nat))], HObj.row Md.rw ty98 (K.flt Go.FloatKind.f64) (y.fst.set (IntKind.i64.wrap (IntKind.i64.wrap ((0 : Int) + (1 : Int)) + (1 : Int))).toNat (canonR
  ([(4607182418800017408 : Nat), s, t].getD (Int.toNat (0 : Int)) (0 : Nat))).fst)] [HObj.box Md.rw ty72 [SV.val (Go.Value.float Go.FloatKind.f64 (0 : Nat)), SV.val (Go.Value.float
  Go.FloatKind.f64 (0 : Nat)), SV.val (Go.Value.float Go.FloatKind.f64 (0 : Nat))], HObj.row Md.rw ty98 (K.flt Go.FloatKind.f64) (y.fst.set (IntKind.i64.wrap (IntKind.i64.wrap ((0 :
  Int) + (1 : Int)) + (1 : Int))).toNat (canonR ([(4607182418800017408 : Nat), s, t].getD (Int.toNat (0 : Int)) (0 : Nat))).fst)] ∧ post_7 () (y.fst.set (IntKind.i64.wrap
  (IntKind.i64.wrap ((0 : Int) + (1 : Int)) + (1 : Int))).toNat (canonR ([(4607182418800017408 : Nat), s, t].getD (Int.toNat (0 : Int)) (0 : Nat))).fst, ())) (Br (List.getD
  (List.getD (framesL.getD f.toNat (K.arr (3 : Nat) (K.arr (3 : Nat) (K.int IntKind.i64))).dflt) (Int.toNat (0 : Int)) (K.arr (3 : Nat) (K.int IntKind.i64)).dflt) (IntKind.i64.wrap
  (IntKind.i64.wrap ((0 : Int) + (1 : Int)) + (1 : Int))).toNat (0 : Int) == (-1 : Int)) (∃ (h : True), ∃ (h : (0 : Int) ≤ IntKind.i64.wrap (IntKind.i64.wrap ((0 : Int) + (1 : Int))
  + (1 : Int)) ∧ IntKind.i64.wrap (IntKind.i64.wrap ((0 : Int) + (1 : Int)) + (1 : Int)) < (↑(3 : Nat) : Int) ∧ (3 : Nat) ≤ y.fst.length), HIs [HObj.box Md.rw ty72 [SV.val
  (Go.Value.float Go.FloatKind.f64 (0 : Nat)), SV.val (Go.Value.float Go.FloatKind.f64 (0 : Nat)), SV.val (Go.Value.float Go.FloatKind.f64 (0 : Nat))], HObj.row Md.rw ty98 (K.flt
  Go.FloatKind.f64) (y.fst.set (IntKind.i64.wrap (IntKind.i64.wrap ((0 : Int) + (1 : Int)) + (1 : Int))).toNat (canonR (Go.Op.negFloat Go.FloatKind.f64 ([(4607182418800017408 :
  Nat), s, t].getD (Int.toNat (0 : Int)) (0 : Nat)))).fst)] [HObj.box Md.rw ty72 [SV.val (Go.Value.float Go.FloatKind.f64 (0 : Nat)), SV.val (Go.Value.float Go.FloatKind.f64 (0 :
  Nat)), SV.val (Go.Value.float Go.FloatKind.f64 (0 : Nat))], HObj.row Md.rw ty98 (K.flt Go.FloatKind.f64) (y.fst.set (IntKind.i64.wrap (IntKind.i64.wrap ((0 : Int) + (1 : Int)) +
  (1 : Int))).toNat (canonR (Go.Op.negFloat Go.FloatKind.f64 ([(4607182418800017408 : Nat), s, t].getD (Int.toNat (0 : Int)) (0 : Nat)))).fst)] ∧ post_7 () (y.fst.set
  (IntKind.i64.wrap (IntKind.i64.wrap ((0 : Int) + (1 : Int)) + (1 : Int))).toNat (canonR (Go.Op.negFloat Go.FloatKind.f64 ([(4607182418800017408 : Nat), s, t].getD (Int.toNat (0 :
  Int)) (0 : Nat)))).fst, ())) (HIs [HObj.box Md.rw ty72 [SV.val (Go.Value.float Go.FloatKind.f64 (0 : Nat)), SV.val (Go.Value.float Go.FloatKind.f64 (0 : Nat)), SV.val
  (Go.Value.float Go.FloatKind.f64 (0 : Nat))], HObj.row Md.rw ty98 (K.flt Go.FloatKind.f64) y.fst] [HObj.box Md.rw ty72 [SV.val (Go.Value.float Go.FloatKind.f64 (0 : Nat)), SV.val
  (Go.Value.float Go.FloatKind.f64 (0 : Nat)), SV.val (Go.Value.float Go.FloatKind.f64 (0 : Nat))], HObj.row Md.rw ty98 (K.flt Go.FloatKind.f64) y.fst] ∧ post_7 () (y.fst, ())))) ∧
  ∀ (x : Unit) (y : List Nat × Unit), post_7 x y → ∃ (post_8 : Unit → List Nat × Unit → Prop), (∃ (h : (0 : Int) ≤ IntKind.i64.wrap ((0 : Int) + (1 : Int)) ∧ IntKind.i64.wrap ((0 :
  Int) + (1 : Int)) < (↑(3 : Nat) : Int)), ∃ (h : (0 : Int) ≤ f ∧ f < (↑(6 : Nat) : Int)), ∃ (h : (0 : Int) ≤ IntKind.i64.wrap ((0 : Int) + (1 : Int)) ∧ IntKind.i64.wrap ((0 : Int)
  + (1 : Int)) < (↑(3 : Nat) : Int)), ∃ (h : (0 : Int) ≤ IntKind.i64.wrap (IntKind.i64.wrap ((0 : Int) + (1 : Int)) + (1 : Int)) ∧ IntKind.i64.wrap (IntKind.i64.wrap ((0 : Int) + (1
  : Int)) + (1 : Int)) < (↑(3 : Nat) : Int)), Br (List.getD (List.getD (framesL.getD f.toNat (K.arr (3 : Nat) (K.arr (3 : Nat) (K.int IntKind.i64))).dflt) (IntKind.i64.wrap ((0 :
  Int) + (1 : Int))).toNat (K.arr (3 : Nat) (K.int IntKind.i64)).dflt) (IntKind.i64.wrap (IntKind.i64.wrap ((0 : Int) + (1 : Int)) + (1 : Int))).toNat (0 : Int) == (1 : Int)) (∃ (h
  : True), ∃ (h : (0 : Int) ≤ IntKind.i64.wrap (IntKind.i64.wrap ((0 : Int) + (1 : Int)) + (1 : Int)) ∧ IntKind.i64.wrap (IntKind.i64.wrap ((0 : Int) + (1 : Int)) + (1 : Int)) <
  (↑(3 : Nat) : Int) ∧ (3 : Nat) ≤ y.fst.length), HIs [HObj.box Md.rw ty72 [SV.val (Go.Value.float Go.FloatKind.f64 (0 : Nat)), SV.val (Go.Value.float Go.FloatKind.f64 (0 : Nat)),
  SV.val (Go.Value.float Go.FloatKind.f64 (0 : Nat))], HObj.row Md.rw ty98 (K.flt Go.FloatKind.f64) (y.fst.set (IntKind.i64.wrap (IntKind.i64.wrap ((0 : Int) + (1 : Int)) + (1 :
  Int))).toNat (canonR ([(4607182418800017408 : Nat), s, t].getD (IntKind.i64.wrap ((0 : Int) + (1 : Int))).toNat (0 : Nat))).fst)] [HObj.box Md.rw ty72 [SV.val (Go.Value.float
  Go.FloatKind.f64 (0 : Nat)), SV.val (Go.Value.float Go.FloatKind.f64 (0 : Nat)), SV.val (Go.Value.float Go.FloatKind.f64 (0 : Nat))], HObj.row Md.rw ty98 (K.flt Go.FloatKind.f64)
  (y.fst.set (IntKind.i64.wrap (IntKind.i64.wrap ((0 : Int) + (1 : Int)) + (1 : Int))).toNat (canonR ([(4607182418800017408 : Nat), s, t].getD (IntKind.i64.wrap ((0 : Int) + (1 :
  Int))).toNat (0 : Nat))).fst)] ∧ post_8 () (y.fst.set (IntKind.i64.wrap (IntKind.i64.wrap ((0 : Int) + (1 : Int)) + (1 : Int))).toNat (canonR ([(4607182418800017408 : Nat), s,
  t].getD (IntKind.i64.wrap ((0 : Int) + (1 : Int))).toNat (0 : Nat))).fst, ())) (Br (List.getD (List.getD (framesL.getD f.toNat (K.arr (3 : Nat) (K.arr (3 : Nat) (K.int
  IntKind.i64))).dflt) (IntKind.i64.wrap ((0 : Int) + (1 : Int))).toNat (K.arr (3 : Nat) (K.int IntKind.i64)).dflt) (IntKind.i64.wrap (IntKind.i64.wrap ((0 : Int) + (1 : Int)) + (1
  : Int))).toNat (0 : Int) == (-1 : Int)) (∃ (h : True), ∃ (h : (0 : Int) ≤ IntKind.i64.wrap (IntKind.i64.wrap ((0 : Int) + (1 : Int)) + (1 : Int)) ∧ IntKind.i64.wrap
  (IntKind.i64.wrap ((0 : Int) + (1 : Int)) + (1 : Int)) < (↑(3 : Nat) : Int) ∧ (3 : Nat) ≤ y.fst.length), HIs [HObj.box Md.rw ty72 [SV.val (Go.Value.float Go.FloatKind.f64 (0 :
  Nat)), SV.val (Go.Value.float Go.FloatKind.f64 (0 : Nat)), SV.val (Go.Value.float Go.FloatKind.f64 (0 : Nat))], HObj.row Md.rw ty98 (K.flt Go.FloatKind.f64) (y.fst.set
  (IntKind.i64.wrap (IntKind.i64.wrap ((0 : Int) + (1 : Int)) + (1 : Int))).toNat (canonR (Go.Op.negFloat Go.FloatKind.f64 ([(4607182418800017408 : Nat), s, t].getD
  (IntKind.i64.wrap ((0 : Int) + (1 : Int))).toNat (0 : Nat)))).fst)] [HObj.box Md.rw ty72 [SV.val (Go.Value.float Go.FloatKind.f64 (0 : Nat)), SV.val (Go.Value.float
  Go.FloatKind.f64 (0 : Nat)), SV.val (Go.Value.float Go.FloatKind.f64 (0 : Nat))], HObj.row Md.rw ty98 (K.flt Go.FloatKind.f64) (y.fst.set (IntKind.i64.wrap (IntKind.i64.wrap ((0 :
  Int) + (1 : Int)) + (1 : Int))).toNat (canonR (Go.Op.negFloat Go.FloatKind.f64 ([(4607182418800017408 : Nat), s, t].getD (IntKind.i64.wrap ((0 : Int) + (1 : Int))).toNat (0 :
  Nat)))).fst)] ∧ post_8 () (y.fst.set (IntKind.i64.wrap (IntKind.i64.wrap ((0 : Int) + (1 : Int)) + (1 : Int))).toNat (canonR (Go.Op.negFloat Go.FloatKind.f64
  ([(4607182418800017408 : Nat), s, t].getD (IntKind.i64.wrap ((0 : Int) + (1 : Int))).toNat (0 : Nat)))).fst, ())) (HIs [HObj.box Md.rw ty72 [SV.val (Go.Value.float
  Go.FloatKind.f64 (0 : Nat)), SV.val (Go.Value.float Go.FloatKind.f64 (0 : Nat)), SV.val (Go.Value.float Go.FloatKind.f64 (0 : Nat))], HObj.row Md.rw ty98 (K.flt Go.FloatKind.f64)
  y.fst] [HObj.box Md.rw ty72 [SV.val (Go.Value.float Go.FloatKind.f64 (0 : Nat)), SV.val (Go.Value.float Go.FloatKind.f64 (0 : Nat)), SV.val (Go.Value.float Go.FloatKind.f64 (0 :
  Nat))], HObj.row Md.rw ty98 (K.flt Go.FloatKind.f64) y.fst] ∧ post_8 () (y.fst, ())))) ∧ ∀ (x : Unit) (y : List Nat × Unit), post_8 x y → ∃ (post_9 : Unit → List Nat × Unit →
  Prop), (∃ (h : (0 : Int) ≤ IntKind.i64.wrap (IntKind.i64.wrap ((0 : Int) + (1 : Int)) + (1 : Int)) ∧ IntKind.i64.wrap (IntKind.i64.wrap ((0 : Int) + (1 : Int)) + (1 : Int)) < (↑(3
  : Nat) : Int)), ∃ (h : (0 : Int) ≤ f ∧ f < (↑(6 : Nat) : Int)), ∃ (h : (0 : Int) ≤ IntKind.i64.wrap (IntKind.i64.wrap ((0 : Int) + (1 : Int)) + (1 : Int)) ∧ IntKind.i64.wrap
  (IntKind.i64.wrap ((0 : Int) + (1 : Int)) + (1 : Int)) < (↑(3 : Nat) : Int)), ∃ (h : (0 : Int) ≤ IntKind.i64.wrap (IntKind.i64.wrap ((0 : Int) + (1 : Int)) + (1 : Int)) ∧
  IntKind.i64.wrap (IntKind.i64.wrap ((0 : Int) + (1 : Int)) + (1 : Int)) < (↑(3 : Nat) : Int)), Br (List.getD (List.getD (framesL.getD f.toNat (K.arr (3 : Nat) (K.arr (3 : Nat)
  (K.int IntKind.i64))).dflt) (IntKind.i64.wrap (IntKind.i64.wrap ((0 : Int) + (1 : Int)) + (1 : Int))).toNat (K.arr (3 : Nat) (K.int IntKind.i64)).dflt) (IntKind.i64.wrap
  (IntKind.i64.wrap ((0 : Int) + (1 : Int)) + (1 : Int))).toNat (0 : Int) == (1 : Int)) (∃ (h : True), ∃ (h : (0 : Int) ≤ IntKind.i64.wrap (IntKind.i64.wrap ((0 : Int) + (1 : Int))
  + (1 : Int)) ∧ IntKind.i64.wrap (IntKind.i64.wrap ((0 : Int) + (1 : Int)) + (1 : Int)) < (↑(3 : Nat) : Int) ∧ (3 : Nat) ≤ y.fst.length), HIs [HObj.box Md.rw ty72 [SV.val
  (Go.Value.float Go.FloatKind.f64 (0 : Nat)), SV.val (Go.Value.float Go.FloatKind.f64 (0 : Nat)), SV.val (Go.Value.float Go.FloatKind.f64 (0 : Nat))], HObj.row Md.rw ty98 (K.flt
  Go.FloatKind.f64) (y.fst.set (IntKind.i64.wrap (IntKind.i64.wrap ((0 : Int) + (1 : Int)) + (1 : Int))).toNat (canonR ([(4607182418800017408 : Nat), s, t].getD (IntKind.i64.wrap
  (IntKind.i64.wrap ((0 : Int) + (1 : Int)) + (1 : Int))).toNat (0 : Nat))).fst)] [HObj.box Md.rw ty72 [SV.val (Go.Value.float Go.FloatKind.f64 (0 : Nat)), SV.val (Go.Value.float
  Go.FloatKind.f64 (0 : Nat)), SV.val (Go.Value.float Go.FloatKind.f64 (0 : Nat))], HObj.row Md.rw ty98 (K.flt Go.FloatKind.f64) (y.fst.set (IntKind.i64.wrap (IntKind.i64.wrap ((0 :
  Int) + (1 : Int)) + (1 : Int))).toNat (canonR ([(4607182418800017408 : Nat), s, t].getD (IntKind.i64.wrap (IntKind.i64.wrap ((0 : Int) + (1 : Int)) + (1 : Int))).toNat (0 :
  Nat))).fst)] ∧ post_9 () (y.fst.set (IntKind.i64.wrap (IntKind.i64.wrap ((0 : Int) + (1 : Int)) + (1 : Int))).toNat (canonR ([(4607182418800017408 : Nat), s, t].getD
  (IntKind.i64.wrap (IntKind.i64.wrap ((0 : Int) + (1 : Int)) + (1 : Int))).toNat (0 : Nat))).fst, ())) (Br (List.getD (List.getD (framesL.getD f.toNat (K.arr (3 : Nat) (K.arr (3 :
  Nat) (K.int IntKind.i64))).dflt) (IntKind.i64.wrap (IntKind.i64.wrap ((0 : Int) + (1 : Int)) + (1 : Int))).toNat (K.arr (3 : Nat) (K.int IntKind.i64)).dflt) (IntKind.i64.wrap
  (IntKind.i64.wrap ((0 : Int) + (1 : Int)) + (1 : Int))).toNat (0 : Int) == (-1 : Int)) (∃ (h : True), ∃ (h : (0 : Int) ≤ IntKind.i64.wrap (IntKind.i64.wrap ((0 : Int) + (1 : Int))
  + (1 : Int)) ∧ IntKind.i64.wrap (IntKind.i64.wrap ((0 : Int) + (1 : Int)) + (1 : Int)) < (↑(3 : Nat) : Int) ∧ (3 : Nat) ≤ y.fst.length), HIs [HObj.box Md.rw ty72 [SV.val
  (Go.Value.float Go.FloatKind.f64 (0 : Nat)), SV.val (Go.Value.float Go.FloatKind.f64 (0 : Nat)), SV.val (Go.Value.float Go.FloatKind.f64 (0 : Nat))], HObj.row Md.rw ty98 (K.flt
  Go.FloatKind.f64) (y.fst.set (IntKind.i64.wrap (IntKind.i64.wrap ((0 : Int) + (1 : Int)) + (1 : Int))).toNat (canonR (Go.Op.negFloat Go.FloatKind.f64 ([(4607182418800017408 :
  Nat), s, t].getD (IntKind.i64.wrap (IntKind.i64.wrap ((0 : Int) + (1 : Int)) + (1 : Int))).toNat (0 : Nat)))).fst)] [HObj.box Md.rw ty72 [SV.val (Go.Value.float Go.FloatKind.f64
  (0 : Nat)), SV.val (Go.Value.float Go.FloatKind.f64 (0 : Nat)), SV.val (Go.Value.float Go.FloatKind.f64 (0 : Nat))], HObj.row Md.rw ty98 (K.flt Go.FloatKind.f64) (y.fst.set
  (IntKind.i64.wrap (IntKind.i64.wrap ((0 : Int) + (1 : Int)) + (1 : Int))).toNat (canonR (Go.Op.negFloat Go.FloatKind.f64 ([(4607182418800017408 : Nat), s, t].getD
  (IntKind.i64.wrap (IntKind.i64.wrap ((0 : Int) + (1 : Int)) + (1 : Int))).toNat (0 : Nat)))).fst)] ∧ post_9 () (y.fst.set (IntKind.i64.wrap (IntKind.i64.wrap ((0 : Int) + (1 :
  Int)) + (1 : Int))).toNat (canonR (Go.Op.negFloat Go.FloatKind.f64 ([(4607182418800017408 : Nat), s, t].getD (IntKind.i64.wrap (IntKind.i64.wrap ((0 : Int) + (1 : Int)) + (1 :
  Int))).toNat (0 : Nat)))).fst, ())) (HIs [HObj.box Md.rw ty72 [SV.val (Go.Value.float Go.FloatKind.f64 (0 : Nat)), SV.val (Go.Value.float Go.FloatKind.f64 (0 : Nat)), SV.val
  (Go.Value.float Go.FloatKind.f64 (0 : Nat))], HObj.row Md.rw ty98 (K.flt Go.FloatKind.f64) y.fst] [HObj.box Md.rw ty72 [SV.val (Go.Value.float Go.FloatKind.f64 (0 : Nat)), SV.val
  (Go.Value.float Go.FloatKind.f64 (0 : Nat)), SV.val (Go.Value.float Go.FloatKind.f64 (0 : Nat))], HObj.row Md.rw ty98 (K.flt Go.FloatKind.f64) y.fst] ∧ post_9 () (y.fst, ())))) ∧
  ∀ (x : Unit) (y : List Nat × Unit), post_9 x y → ∃ (h : (0 : Int) ≤ (0 : Int) ∧ (0 : Int) < (↑(3 : Nat) : Int) ∧ (3 : Nat) ≤ y.fst.length), ∃ (h : (0 : Int) ≤ (1 : Int) ∧ (1 :
  Int) < (↑(3 : Nat) : Int) ∧ (3 : Nat) ≤ y.fst.length), ∃ (h : (0 : Int) ≤ (2 : Int) ∧ (2 : Int) < (↑(3 : Nat) : Int) ∧ (3 : Nat) ≤ y.fst.length), ∃ (h : WV (y.fst.getD (Int.toNat
  (0 : Int)) (0 : Nat), y.fst.getD (Int.toNat (1 : Int)) (0 : Nat), y.fst.getD (Int.toNat (2 : Int)) (0 : Nat))), post (((unitR (y.fst.getD (Int.toNat (0 : Int)) (0 : Nat),
  y.fst.getD (Int.toNat (1 : Int)) (0 : Nat), y.fst.getD (Int.toNat (2 : Int)) (0 : Nat))).fst.fst, (unitR (y.fst.getD (Int.toNat (0 : Int)) (0 : Nat), y.fst.getD (Int.toNat (1 :
  Int)) (0 : Nat), y.fst.getD (Int.toNat (2 : Int)) (0 : Nat))).fst.snd.fst, (unitR (y.fst.getD (Int.toNat (0 : Int)) (0 : Nat), y.fst.getD (Int.toNat (1 : Int)) (0 : Nat),
  y.fst.getD (Int.toNat (2 : Int)) (0 : Nat))).fst.snd.snd), ())
theorem Lx_geom_point (ty0 ty1 : Nat) (f : Int) (s : Nat) (t : Nat) (h : WPoint f s t) : Fx_geom_point ty0 ty1 f s t (fun r => r = pointR f s t) := by
  obtain ⟨f0, f5, hs, ht⟩ := h
  have hfb : 0 ≤ f ∧ f < ((6 : Nat) : Int) := ⟨f0, by omega⟩
  refine ⟨fun _ y => y.1 = [(axisF (frameI f 0 0) (List.getD [(4607182418800017408 : Nat), s, t] (Int.toNat (0 : Int)) (0 : Nat)) 0), 0, 0], ⟨by decide, hfb, by decide, by decide, br_axis (m := (frameI f 0 0)) (v := (List.getD [(4607182418800017408 : Nat), s, t] (Int.toNat (0 : Int)) (0 : Nat))) (c := 0) (P := fun z => [z, 0, 0] = [(axisF (frameI f 0 0) (List.getD [(4607182418800017408 : Nat), s, t] (Int.toNat (0 : Int)) (0 : Nat)) 0), 0, 0]) rfl (fun e => ⟨trivial, ⟨by decide, by decide, Nat.le_refl 3⟩, rfl, e⟩) (fun e => ⟨trivial, ⟨by decide, by decide, Nat.le_refl 3⟩, rfl, e⟩) (fun e => ⟨rfl, e⟩)⟩, ?_⟩
  rintro ⟨⟩ ⟨_, ⟨⟩⟩ rfl
  refine ⟨fun _ y => y.1 = [(axisF (frameI f 1 0) s (axisF (frameI f 0 0) (List.getD [(4607182418800017408 : Nat), s, t] (Int.toNat (0 : Int)) (0 : Nat)) 0)), 0, 0], ⟨by decide, hfb, by decide, by decide, br_axis (m := (frameI f 1 0)) (v := s) (c := (axisF (frameI f 0 0) (List.getD [(4607182418800017408 : Nat), s, t] (Int.toNat (0 : Int)) (0 : Nat)) 0)) (P := fun z => [z, 0, 0] = [(axisF (frameI f 1 0) s (axisF (frameI f 0 0) (List.getD [(4607182418800017408 : Nat), s, t] (Int.toNat (0 : Int)) (0 : Nat)) 0)), 0, 0]) rfl (fun e => ⟨trivial, ⟨by decide, by decide, Nat.le_refl 3⟩, rfl, e⟩) (fun e => ⟨trivial, ⟨by decide, by decide, Nat.le_refl 3⟩, rfl, e⟩) (fun e => ⟨rfl, e⟩)⟩, ?_⟩
  rintro ⟨⟩ ⟨_, ⟨⟩⟩ rfl
  refine ⟨fun _ y => y.1 = [(axisF (frameI f 2 0) t (axisF (frameI f 1 0) s (axisF (frameI f 0 0) (List.getD [(4607182418800017408 : Nat), s, t] (Int.toNat (0 : Int)) (0 : Nat)) 0))), 0, 0], ⟨by decide, hfb, by decide, by decide, br_axis (m := (frameI f 2 0)) (v := t) (c := (axisF (frameI f 1 0) s (axisF (frameI f 0 0) (List.getD [(4607182418800017408 : Nat), s, t] (Int.toNat (0 : Int)) (0 : Nat)) 0))) (P := fun z => [z, 0, 0] = [(axisF (frameI f 2 0) t (axisF (frameI f 1 0) s (axisF (frameI f 0 0) (List.getD [(4607182418800017408 : Nat), s, t] (Int.toNat (0 : Int)) (0 : Nat)) 0))), 0, 0]) rfl (fun e => ⟨trivial, ⟨by decide, by decide, Nat.le_refl 3⟩, rfl, e⟩) (fun e => ⟨trivial, ⟨by decide, by decide, Nat.le_refl 3⟩, rfl, e⟩) (fun e => ⟨rfl, e⟩)⟩, ?_⟩
  rintro ⟨⟩ ⟨_, ⟨⟩⟩ rfl
  refine ⟨fun _ y => y.1 = [(axisF (frameI f 2 0) t (axisF (frameI f 1 0) s (axisF (frameI f 0 0) (List.getD [(4607182418800017408 : Nat), s, t] (Int.toNat (0 : Int)) (0 : Nat)) 0))), (axisF (frameI f 0 1) (List.getD [(4607182418800017408 : Nat), s, t] (Int.toNat (0 : Int)) (0 : Nat)) 0), 0], ⟨by decide, hfb, by decide, by decide, br_axis (m := (frameI f 0 1)) (v := (List.getD [(4607182418800017408 : Nat), s, t] (Int.toNat (0 : Int)) (0 : Nat))) (c := 0) (P := fun z => [(axisF (frameI f 2 0) t (axisF (frameI f 1 0) s (axisF (frameI f 0 0) (List.getD [(4607182418800017408 : Nat), s, t] (Int.toNat (0 : Int)) (0 : Nat)) 0))), z, 0] = [(axisF (frameI f 2 0) t (axisF (frameI f 1 0) s (axisF (frameI f 0 0) (List.getD [(4607182418800017408 : Nat), s, t] (Int.toNat (0 : Int)) (0 : Nat)) 0))), (axisF (frameI f 0 1) (List.getD [(4607182418800017408 : Nat), s, t] (Int.toNat (0 : Int)) (0 : Nat)) 0), 0]) rfl (fun e => ⟨trivial, ⟨by decide, by decide, Nat.le_refl 3⟩, rfl, e⟩) (fun e => ⟨trivial, ⟨by decide, by decide, Nat.le_refl 3⟩, rfl, e⟩) (fun e => ⟨rfl, e⟩)⟩, ?_⟩
  rintro ⟨⟩ ⟨_, ⟨⟩⟩ rfl
  refine ⟨fun _ y => y.1 = [(axisF (frameI f 2 0) t (axisF (frameI f 1 0) s (axisF (frameI f 0 0) (List.getD [(4607182418800017408 : Nat), s, t] (Int.toNat (0 : Int)) (0 : Nat)) 0))), (axisF (frameI f 1 1) s (axisF (frameI f 0 1) (List.getD [(4607182418800017408 : Nat), s, t] (Int.toNat (0 : Int)) (0 : Nat)) 0)), 0], ⟨by decide, hfb, by decide, by decide, br_axis (m := (frameI f 1 1)) (v := s) (c := (axisF (frameI f 0 1) (List.getD [(4607182418800017408 : Nat), s, t] (Int.toNat (0 : Int)) (0 : Nat)) 0)) (P := fun z => [(axisF (frameI f 2 0) t (axisF (frameI f 1 0) s (axisF (frameI f 0 0) (List.getD [(4607182418800017408 : Nat), s, t] (Int.toNat (0 : Int)) (0 : Nat)) 0))), z, 0] = [(axisF (frameI f 2 0) t (axisF (frameI f 1 0) s (axisF (frameI f 0 0) (List.getD [(4607182418800017408 : Nat), s, t] (Int.toNat (0 : Int)) (0 : Nat)) 0))), (axisF (frameI f 1 1) s (axisF (frameI f 0 1) (List.getD [(4607182418800017408 : Nat), s, t] (Int.toNat (0 : Int)) (0 : Nat)) 0)), 0]) rfl (fun e => ⟨trivial, ⟨by decide, by decide, Nat.le_refl 3⟩, rfl, e⟩) (fun e => ⟨trivial, ⟨by decide, by decide, Nat.le_refl 3⟩, rfl, e⟩) (fun e => ⟨rfl, e⟩)⟩, ?_⟩
  rintro ⟨⟩ ⟨_, ⟨⟩⟩ rfl
  refine ⟨fun _ y => y.1 = [(axisF (frameI f 2 0) t (axisF (frameI f 1 0) s (axisF (frameI f 0 0) (List.getD [(4607182418800017408 : Nat), s, t] (Int.toNat (0 : Int)) (0 : Nat)) 0))), (axisF (frameI f 2 1) t (axisF (frameI f 1 1) s (axisF (frameI f 0 1) (List.getD [(4607182418800017408 : Nat), s, t] (Int.toNat (0 : Int)) (0 : Nat)) 0))), 0], ⟨by decide, hfb, by decide, by decide, br_axis (m := (frameI f 2 1)) (v := t) (c := (axisF (frameI f 1 1) s (axisF (frameI f 0 1) (List.getD [(4607182418800017408 : Nat), s, t] (Int.toNat (0 : Int)) (0 : Nat)) 0))) (P := fun z => [(axisF (frameI f 2 0) t (axisF (frameI f 1 0) s (axisF (frameI f 0 0) (List.getD [(4607182418800017408 : Nat), s, t] (Int.toNat (0 : Int)) (0 : Nat)) 0))), z, 0] = [(axisF (frameI f 2 0) t (axisF (frameI f 1 0) s (axisF (frameI f 0 0) (List.getD [(4607182418800017408 : Nat), s, t] (Int.toNat (0 : Int)) (0 : Nat)) 0))), (axisF (frameI f 2 1) t (axisF (frameI f 1 1) s (axisF (frameI f 0 1) (List.getD [(4607182418800017408 : Nat), s, t] (Int.toNat (0 : Int)) (0 : Nat)) 0))), 0]) rfl (fun e => ⟨trivial, ⟨by decide, by decide, Nat.le_refl 3⟩, rfl, e⟩) (fun e => ⟨trivial, ⟨by decide, by decide, Nat.le_refl 3⟩, rfl, e⟩) (fun e => ⟨rfl, e⟩)⟩, ?_⟩
  rintro ⟨⟩ ⟨_, ⟨⟩⟩ rfl
  refine ⟨fun _ y => y.1 = [(axisF (frameI f 2 0) t (axisF (frameI f 1 0) s (axisF (frameI f 0 0) (List.getD [(4607182418800017408 : Nat), s, t] (Int.toNat (0 : Int)) (0 : Nat)) 0))), (axisF (frameI f 2 1) t (axisF (frameI f 1 1) s (axisF (frameI f 0 1) (List.getD [(4607182418800017408 : Nat), s, t] (Int.toNat (0 : Int)) (0 : Nat)) 0))), (axisF (frameI f 0 2) (List.getD [(4607182418800017408 : Nat), s, t] (Int.toNat (0 : Int)) (0 : Nat)) 0)], ⟨by decide, hfb, by decide, by decide, br_axis (m := (frameI f 0 2)) (v := (List.getD [(4607182418800017408 : Nat), s, t] (Int.toNat (0 : Int)) (0 : Nat))) (c := 0) (P := fun z => [(axisF (frameI f 2 0) t (axisF (frameI f 1 0) s (axisF (frameI f 0 0) (List.getD [(4607182418800017408 : Nat), s, t] (Int.toNat (0 : Int)) (0 : Nat)) 0))), (axisF (frameI f 2 1) t (axisF (frameI f 1 1) s (axisF (frameI f 0 1) (List.getD [(4607182418800017408 : Nat), s, t] (Int.toNat (0 : Int)) (0 : Nat)) 0))), z] = [(axisF (frameI f 2 0) t (axisF (frameI f 1 0) s (axisF (frameI f 0 0) (List.getD [(4607182418800017408 : Nat), s, t] (Int.toNat (0 : Int)) (0 : Nat)) 0))), (axisF (frameI f 2 1) t (axisF (frameI f 1 1) s (axisF (frameI f 0 1) (List.getD [(4607182418800017408 : Nat), s, t] (Int.toNat (0 : Int)) (0 : Nat)) 0))), (axisF (frameI f 0 2) (List.getD [(4607182418800017408 : Nat), s, t] (Int.toNat (0 : Int)) (0 : Nat)) 0)]) rfl (fun e => ⟨trivial, ⟨by decide, by decide, Nat.le_refl 3⟩, rfl, e⟩) (fun e => ⟨trivial, ⟨by decide, by decide, Nat.le_refl 3⟩, rfl, e⟩) (fun e => ⟨rfl, e⟩)⟩, ?_⟩
  rintro ⟨⟩ ⟨_, ⟨⟩⟩ rfl
  refine ⟨fun _ y => y.1 = [(axisF (frameI f 2 0) t (axisF (frameI f 1 0) s (axisF (frameI f 0 0) (List.getD [(4607182418800017408 : Nat), s, t] (Int.toNat (0 : Int)) (0 : Nat)) 0))), (axisF (frameI f 2 1) t (axisF (frameI f 1 1) s (axisF (frameI f 0 1) (List.getD [(4607182418800017408 : Nat), s, t] (Int.toNat (0 : Int)) (0 : Nat)) 0))), (axisF (frameI f 1 2) s (axisF (frameI f 0 2) (List.getD [(4607182418800017408 : Nat), s, t] (Int.toNat (0 : Int)) (0 : Nat)) 0))], ⟨by decide, hfb, by decide, by decide, br_axis (m := (frameI f 1 2)) (v := s) (c := (axisF (frameI f 0 2) (List.getD [(4607182418800017408 : Nat), s, t] (Int.toNat (0 : Int)) (0 : Nat)) 0)) (P := fun z => [(axisF (frameI f 2 0) t (axisF (frameI f 1 0) s (axisF (frameI f 0 0) (List.getD [(4607182418800017408 : Nat), s, t] (Int.toNat (0 : Int)) (0 : Nat)) 0))), (axisF (frameI f 2 1) t (axisF (frameI f 1 1) s (axisF (frameI f 0 1) (List.getD [(4607182418800017408 : Nat), s, t] (Int.toNat (0 : Int)) (0 : Nat)) 0))), z] = [(axisF (frameI f 2 0) t (axisF (frameI f 1 0) s (axisF (frameI f 0 0) (List.getD [(4607182418800017408 : Nat), s, t] (Int.toNat (0 : Int)) (0 : Nat)) 0))), (axisF (frameI f 2 1) t (axisF (frameI f 1 1) s (axisF (frameI f 0 1) (List.getD [(4607182418800017408 : Nat), s, t] (Int.toNat (0 : Int)) (0 : Nat)) 0))), (axisF (frameI f 1 2) s (axisF (frameI f 0 2) (List.getD [(4607182418800017408 : Nat), s, t] (Int.toNat (0 : Int)) (0 : Nat)) 0))]) rfl (fun e => ⟨trivial, ⟨by decide, by decide, Nat.le_refl 3⟩, rfl, e⟩) (fun e => ⟨trivial, ⟨by decide, by decide, Nat.le_refl 3⟩, rfl, e⟩) (fun e => ⟨rfl, e⟩)⟩, ?_⟩
  rintro ⟨⟩ ⟨_, ⟨⟩⟩ rfl
  refine ⟨fun _ y => y.1 = [(axisF (frameI f 2 0) t (axisF (frameI f 1 0) s (axisF (frameI f 0 0) (List.getD [(4607182418800017408 : Nat), s, t] (Int.toNat (0 : Int)) (0 : Nat)) 0))), (axisF (frameI f 2 1) t (axisF (frameI f 1 1) s (axisF (frameI f 0 1) (List.getD [(4607182418800017408 : Nat), s, t] (Int.toNat (0 : Int)) (0 : Nat)) 0))), (axisF (frameI f 2 2) t (axisF (frameI f 1 2) s (axisF (frameI f 0 2) (List.getD [(4607182418800017408 : Nat), s, t] (Int.toNat (0 : Int)) (0 : Nat)) 0)))], ⟨by decide, hfb, by decide, by decide, br_axis (m := (frameI f 2 2)) (v := t) (c := (axisF (frameI f 1 2) s (axisF (frameI f 0 2) (List.getD [(4607182418800017408 : Nat), s, t] (Int.toNat (0 : Int)) (0 : Nat)) 0))) (P := fun z => [(axisF (frameI f 2 0) t (axisF (frameI f 1 0) s (axisF (frameI f 0 0) (List.getD [(4607182418800017408 : Nat), s, t] (Int.toNat (0 : Int)) (0 : Nat)) 0))), (axisF (frameI f 2 1) t (axisF (frameI f 1 1) s (axisF (frameI f 0 1) (List.getD [(4607182418800017408 : Nat), s, t] (Int.toNat (0 : Int)) (0 : Nat)) 0))), z] = [(axisF (frameI f 2 0) t (axisF (frameI f 1 0) s (axisF (frameI f 0 0) (List.getD [(4607182418800017408 : Nat), s, t] (Int.toNat (0 : Int)) (0 : Nat)) 0))), (axisF (frameI f 2 1) t (axisF (frameI f 1 1) s (axisF (frameI f 0 1) (List.getD [(4607182418800017408 : Nat), s, t] (Int.toNat (0 : Int)) (0 : Nat)) 0))), (axisF (frameI f 2 2) t (axisF (frameI f 1 2) s (axisF (frameI f 0 2) (List.getD [(4607182418800017408 : Nat), s, t] (Int.toNat (0 : Int)) (0 : Nat)) 0)))]) rfl (fun e => ⟨trivial, ⟨by decide, by decide, Nat.le_refl 3⟩, rfl, e⟩) (fun e => ⟨trivial, ⟨by decide, by decide, Nat.le_refl 3⟩, rfl, e⟩) (fun e => ⟨rfl, e⟩)⟩, ?_⟩
  rintro ⟨⟩ ⟨_, ⟨⟩⟩ rfl
  refine ⟨⟨by decide, by decide, Nat.le_refl 3⟩, ⟨by decide, by decide, Nat.le_refl 3⟩, ⟨by decide, by decide, Nat.le_refl 3⟩, ⟨axisP_w f hs ht 0, axisP_w f hs ht 1, axisP_w f hs ht 2⟩, rfl⟩
def Fx_geom_Corner := fun (n f i j : Int) (post : (Nat × Nat × Nat) × Bool × Unit → Prop) => ∃ (h : I64 n), ∀ (a : Bool), a = ((cellsR n).fst == (0 : Int)) → Br a (post (((0 : Nat),
  (0 : Nat), (0 : Nat)), Bool.false, ())) (∀ (a : Bool), a = decide (f < (0 : Int)) → Br a (post (((0 : Nat), (0 : Nat), (0 : Nat)), Bool.false, ())) (∀ (a : Bool), a = decide (f >
  (5 : Int)) → Br a (post (((0 : Nat), (0 : Nat), (0 : Nat)), Bool.false, ())) (∀ (a : Bool), a = decide (i < (0 : Int)) → Br a (post (((0 : Nat), (0 : Nat), (0 : Nat)), Bool.false,
  ())) (∀ (a : Bool), a = decide (i > n) → Br a (post (((0 : Nat), (0 : Nat), (0 : Nat)), Bool.false, ())) (∀ (a : Bool), a = decide (j < (0 : Int)) → Br a (post (((0 : Nat), (0 :
  Nat), (0 : Nat)), Bool.false, ())) (∀ (a : Bool), a = decide (j > n) → Br a (post (((0 : Nat), (0 : Nat), (0 : Nat)), Bool.false, ())) (∃ (h : WRatio (IntKind.i64.wrap
  (IntKind.i64.wrap ((2 : Int) * i) - n)) n), ∃ (h : WRatio (IntKind.i64.wrap (IntKind.i64.wrap ((2 : Int) * j) - n)) n), ∃ (h : WPoint f (ratioR (IntKind.i64.wrap (IntKind.i64.wrap
  ((2 : Int) * i) - n)) n).fst (ratioR (IntKind.i64.wrap (IntKind.i64.wrap ((2 : Int) * j) - n)) n).fst), post (((pointR f (ratioR (IntKind.i64.wrap (IntKind.i64.wrap ((2 : Int) *
  i) - n)) n).fst (ratioR (IntKind.i64.wrap (IntKind.i64.wrap ((2 : Int) * j) - n)) n).fst).fst.fst, (pointR f (ratioR (IntKind.i64.wrap (IntKind.i64.wrap ((2 : Int) * i) - n))
  n).fst (ratioR (IntKind.i64.wrap (IntKind.i64.wrap ((2 : Int) * j) - n)) n).fst).fst.snd.fst, (pointR f (ratioR (IntKind.i64.wrap (IntKind.i64.wrap ((2 : Int) * i) - n)) n).fst
  (ratioR (IntKind.i64.wrap (IntKind.i64.wrap ((2 : Int) * j) - n)) n).fst).fst.snd.snd), Bool.true, ()))))))))
theorem Lx_geom_Corner (n : Int) (f : Int) (i : Int) (j : Int) (h : IIII n f i j) : Fx_geom_Corner  n f i j (fun r => r = cornerR n f i j) := by
  obtain ⟨hn, hf, hi, hj⟩ := h
  have bad : cornerOk n f i j = false → (((0 : Nat), (0 : Nat), (0 : Nat)), false, ()) = cornerR n f i j := by
    intro e; unfold cornerR; rw [if_neg (by rw [e]; decide)]
  refine ⟨hn, ?_⟩
  rintro _ rfl
  refine Br.intro (fun e => ?_) fun e0 => ?_
  · have e : cellsI n = 0 := by have e : (cellsI n == 0) = true := e; simpa using e
    refine bad ?_
    cases hg : goodC n with
    | false => unfold cornerOk; rw [hg]; rfl
    | true => rw [cells_good hg] at e; have := sq_bd (goodC_iff.1 hg).1 (goodC_iff.1 hg).2; omega
  have e0 : ¬ cellsI n = 0 := by have e : (cellsI n == 0) = false := e0; simpa using e
  have hg : goodC n = true := by
    cases hg : goodC n with
    | false => exact absurd (cells_bad hg) e0
    | true => rfl
  obtain ⟨n1, n2⟩ := goodC_iff.1 hg
  have no : ¬ (0 ≤ f ∧ f ≤ 5 ∧ 0 ≤ i ∧ i ≤ n ∧ 0 ≤ j ∧ j ≤ n) → cornerOk n f i j = false := by
    intro q
    rw [Bool.eq_false_iff]
    intro w
    unfold cornerOk at w
    simp only [Bool.and_eq_true, decide_eq_true_eq] at w
    omega
  rintro _ rfl
  refine Br.intro (fun e => bad (no (by have e := of_decide_eq_true e; omega))) fun e1 => ?_
  have e1 := of_decide_eq_false e1
  rintro _ rfl
  refine Br.intro (fun e => bad (no (by have e := of_decide_eq_true e; omega))) fun e2 => ?_
  have e2 := of_decide_eq_false e2
  rintro _ rfl
  refine Br.intro (fun e => bad (no (by have e := of_decide_eq_true e; omega))) fun e3 => ?_
  have e3 := of_decide_eq_false e3
  rintro _ rfl
  refine Br.intro (fun e => bad (no (by have e := of_decide_eq_true e; omega))) fun e4 => ?_
  have e4 := of_decide_eq_false e4
  rintro _ rfl
  refine Br.intro (fun e => bad (no (by have e := of_decide_eq_true e; omega))) fun e5 => ?_
  have e5 := of_decide_eq_false e5
  rintro _ rfl
  refine Br.intro (fun e => bad (no (by have e := of_decide_eq_true e; omega))) fun e6 => ?_
  have e6 := of_decide_eq_false e6
  obtain ⟨w1, w2⟩ := ratio_wrap n1 n2 (i := i) (by omega) (by omega)
  obtain ⟨w3, w4⟩ := ratio_wrap n1 n2 (i := j) (by omega) (by omega)
  rw [w1, w3]
  refine ⟨w2, w4, ⟨by omega, by omega, divQF_w _ _, divQF_w _ _⟩, ?_⟩
  have ok : cornerOk n f i j = true := by
    unfold cornerOk
    rw [hg, decide_eq_true (by omega), decide_eq_true (by omega), decide_eq_true (by omega), decide_eq_true (by omega), decide_eq_true (by omega), decide_eq_true (by omega)]
    rfl
  unfold cornerR; rw [if_pos ok]; rfl
def Fx_geom_corners := fun (n c : Int) (post : List (Nat × Nat × Nat) × Bool × Unit → Prop) => ∃ (h : II n c), Br (!(placeR4 n c).snd.snd.snd.fst) (∃ (h : (List.replicate (4 : Nat)
  ((K.flt Go.FloatKind.f64).pair ((K.flt Go.FloatKind.f64).pair (K.flt Go.FloatKind.f64))).dflt).length = (4 : Nat) ∧ (4 : Nat) = (4 : Nat)), ∃ (h : (4 : Nat) = (4 : Nat)), post
  ([((0 : Nat), (0 : Nat), (0 : Nat)), ((0 : Nat), (0 : Nat), (0 : Nat)), ((0 : Nat), (0 : Nat), (0 : Nat)), ((0 : Nat), (0 : Nat), (0 : Nat))], Bool.false, ())) (∃ (h : (0 : Int) ≤
  (0 : Int) ∧ (0 : Int) < (↑(4 : Nat) : Int)), ∃ (h : (List.replicate (2 : Nat) (0 : Int)).length = (2 : Nat) ∧ List.length ([[(0 : Int), (0 : Int)], [(1 : Int), (0 : Int)], [(1 :
  Int), (1 : Int)], [(0 : Int), (1 : Int)]].getD (Int.toNat (0 : Int)) (K.arr (2 : Nat) (K.int IntKind.i64)).dflt) = (2 : Nat)), ∃ (h : (0 : Int) ≤ (0 : Int) ∧ (0 : Int) < (↑(2 :
  Nat) : Int) ∧ (2 : Nat) ≤ List.length ([[(0 : Int), (0 : Int)], [(1 : Int), (0 : Int)], [(1 : Int), (1 : Int)], [(0 : Int), (1 : Int)]].getD (Int.toNat (0 : Int)) (K.arr (2 : Nat)
  (K.int IntKind.i64)).dflt)), ∃ (h : (0 : Int) ≤ (1 : Int) ∧ (1 : Int) < (↑(2 : Nat) : Int) ∧ (2 : Nat) ≤ List.length ([[(0 : Int), (0 : Int)], [(1 : Int), (0 : Int)], [(1 : Int),
  (1 : Int)], [(0 : Int), (1 : Int)]].getD (Int.toNat (0 : Int)) (K.arr (2 : Nat) (K.int IntKind.i64)).dflt)), ∃ (h : IIII n (placeR4 n c).fst (IntKind.i64.wrap ((placeR4 n
  c).snd.fst + List.getD ([[(0 : Int), (0 : Int)], [(1 : Int), (0 : Int)], [(1 : Int), (1 : Int)], [(0 : Int), (1 : Int)]].getD (Int.toNat (0 : Int)) (K.arr (2 : Nat) (K.int
  IntKind.i64)).dflt) (Int.toNat (0 : Int)) (0 : Int))) (IntKind.i64.wrap ((placeR4 n c).snd.snd.fst + List.getD ([[(0 : Int), (0 : Int)], [(1 : Int), (0 : Int)], [(1 : Int), (1 :
  Int)], [(0 : Int), (1 : Int)]].getD (Int.toNat (0 : Int)) (K.arr (2 : Nat) (K.int IntKind.i64)).dflt) (Int.toNat (1 : Int)) (0 : Int)))), ∃ (h : (0 : Int) ≤ (0 : Int) ∧ (0 : Int)
  < (↑(4 : Nat) : Int) ∧ (4 : Nat) ≤ (List.replicate (4 : Nat) ((K.flt Go.FloatKind.f64).pair ((K.flt Go.FloatKind.f64).pair (K.flt Go.FloatKind.f64))).dflt).length), ∃ (h : (0 :
  Int) ≤ IntKind.i64.wrap ((0 : Int) + (1 : Int)) ∧ IntKind.i64.wrap ((0 : Int) + (1 : Int)) < (↑(4 : Nat) : Int)), ∃ (h : (List.replicate (2 : Nat) (0 : Int)).length = (2 : Nat) ∧
  List.length ([[(0 : Int), (0 : Int)], [(1 : Int), (0 : Int)], [(1 : Int), (1 : Int)], [(0 : Int), (1 : Int)]].getD (IntKind.i64.wrap ((0 : Int) + (1 : Int))).toNat (K.arr (2 :
  Nat) (K.int IntKind.i64)).dflt) = (2 : Nat)), ∃ (h : (0 : Int) ≤ (0 : Int) ∧ (0 : Int) < (↑(2 : Nat) : Int) ∧ (2 : Nat) ≤ List.length ([[(0 : Int), (0 : Int)], [(1 : Int), (0 :
  Int)], [(1 : Int), (1 : Int)], [(0 : Int), (1 : Int)]].getD (IntKind.i64.wrap ((0 : Int) + (1 : Int))).toNat (K.arr (2 : Nat) (K.int IntKind.i64)).dflt)), ∃ (h : (0 : Int) ≤ (1 :
  Int) ∧ (1 : Int) < (↑(2 : Nat) : Int) ∧ (2 : Nat) ≤ List.length ([[(0 : Int), (0 : Int)], [(1 : Int), (0 : Int)], [(1 : Int), (1 : Int)], [(0 : Int), (1 : Int)]].getD
  (IntKind.i64.wrap ((0 : Int) + (1 : Int))).toNat (K.arr (2 : Nat) (K.int IntKind.i64)).dflt)), ∃ (h : IIII n (placeR4 n c).fst (IntKind.i64.wrap ((placeR4 n c).snd.fst + List.getD
  ([[(0 : Int), (0 : Int)], [(1 : Int), (0 : Int)], [(1 : Int), (1 : Int)], [(0 : Int), (1 : Int)]].getD (IntKind.i64.wrap ((0 : Int) + (1 : Int))).toNat (K.arr (2 : Nat) (K.int
  IntKind.i64)).dflt) (Int.toNat (0 : Int)) (0 : Int))) (IntKind.i64.wrap ((placeR4 n c).snd.snd.fst + List.getD ([[(0 : Int), (0 : Int)], [(1 : Int), (0 : Int)], [(1 : Int), (1 :
  Int)], [(0 : Int), (1 : Int)]].getD (IntKind.i64.wrap ((0 : Int) + (1 : Int))).toNat (K.arr (2 : Nat) (K.int IntKind.i64)).dflt) (Int.toNat (1 : Int)) (0 : Int)))), ∃ (h : (0 :
  Int) ≤ IntKind.i64.wrap ((0 : Int) + (1 : Int)) ∧ IntKind.i64.wrap ((0 : Int) + (1 : Int)) < (↑(4 : Nat) : Int) ∧ (4 : Nat) ≤ ((List.replicate (4 : Nat) ((K.flt
  Go.FloatKind.f64).pair ((K.flt Go.FloatKind.f64).pair (K.flt Go.FloatKind.f64))).dflt).set (Int.toNat (0 : Int)) (cornerR n (placeR4 n c).fst (IntKind.i64.wrap ((placeR4 n
  c).snd.fst + List.getD ([[(0 : Int), (0 : Int)], [(1 : Int), (0 : Int)], [(1 : Int), (1 : Int)], [(0 : Int), (1 : Int)]].getD (Int.toNat (0 : Int)) (K.arr (2 : Nat) (K.int
  IntKind.i64)).dflt) (Int.toNat (0 : Int)) (0 : Int))) (IntKind.i64.wrap ((placeR4 n c).snd.snd.fst + List.getD ([[(0 : Int), (0 : Int)], [(1 : Int), (0 : Int)], [(1 : Int), (1 :
  Int)], [(0 : Int), (1 : Int)]].getD (Int.toNat (0 : Int)) (K.arr (2 : Nat) (K.int IntKind.i64)).dflt) (Int.toNat (1 : Int)) (0 : Int)))).fst).length), ∃ (h : (0 : Int) ≤
  IntKind.i64.wrap (IntKind.i64.wrap ((0 : Int) + (1 : Int)) + (1 : Int)) ∧ IntKind.i64.wrap (IntKind.i64.wrap ((0 : Int) + (1 : Int)) + (1 : Int)) < (↑(4 : Nat) : Int)), ∃ (h :
  (List.replicate (2 : Nat) (0 : Int)).length = (2 : Nat) ∧ List.length ([[(0 : Int), (0 : Int)], [(1 : Int), (0 : Int)], [(1 : Int), (1 : Int)], [(0 : Int), (1 : Int)]].getD
  (IntKind.i64.wrap (IntKind.i64.wrap ((0 : Int) + (1 : Int)) + (1 : Int))).toNat (K.arr (2 : Nat) (K.int IntKind.i64)).dflt) = (2 : Nat)), ∃ (h : (0 : Int) ≤ (0 : Int) ∧ (0 : Int)
  < (↑(2 : Nat) : Int) ∧ (2 : Nat) ≤ List.length ([[(0 : Int), (0 : Int)], [(1 : Int), (0 : Int)], [(1 : Int), (1 : Int)], [(0 : Int), (1 : Int)]].getD (IntKind.i64.wrap
  (IntKind.i64.wrap ((0 : Int) + (1 : Int)) + (1 : Int))).toNat (K.arr (2 : Nat) (K.int IntKind.i64)).dflt)), ∃ (h : (0 : Int) ≤ (1 : Int) ∧ (1 : Int) < (↑(2 : Nat) : Int) ∧ (2 :
  Nat) ≤ List.length ([[(0 : Int), (0 : Int)], [(1 : Int), (0 : Int)], [(1 : Int), (1 : Int)], [(0 : Int), (1 : Int)]].getD (IntKind.i64.wrap (IntKind.i64.wrap ((0 : Int) + (1 :
  Int)) + (1 : Int))).toNat (K.arr (2 : Nat) (K.int IntKind.i64)).dflt)), ∃ (h : IIII n (placeR4 n c).fst (IntKind.i64.wrap ((placeR4 n c).snd.fst + List.getD ([[(0 : Int), (0 :
  Int)], [(1 : Int), (0 : Int)], [(1 : Int), (1 : Int)], [(0 : Int), (1 : Int)]].getD (IntKind.i64.wrap (IntKind.i64.wrap ((0 : Int) + (1 : Int)) + (1 : Int))).toNat (K.arr (2 :
  Nat) (K.int IntKind.i64)).dflt) (Int.toNat (0 : Int)) (0 : Int))) (IntKind.i64.wrap ((placeR4 n c).snd.snd.fst + List.getD ([[(0 : Int), (0 : Int)], [(1 : Int), (0 : Int)], [(1 :
  Int), (1 : Int)], [(0 : Int), (1 : Int)]].getD (IntKind.i64.wrap (IntKind.i64.wrap ((0 : Int) + (1 : Int)) + (1 : Int))).toNat (K.arr (2 : Nat) (K.int IntKind.i64)).dflt)
  (Int.toNat (1 : Int)) (0 : Int)))), ∃ (h : (0 : Int) ≤ IntKind.i64.wrap (IntKind.i64.wrap ((0 : Int) + (1 : Int)) + (1 : Int)) ∧ IntKind.i64.wrap (IntKind.i64.wrap ((0 : Int) + (1
  : Int)) + (1 : Int)) < (↑(4 : Nat) : Int) ∧ (4 : Nat) ≤ (((List.replicate (4 : Nat) ((K.flt Go.FloatKind.f64).pair ((K.flt Go.FloatKind.f64).pair (K.flt
  Go.FloatKind.f64))).dflt).set (Int.toNat (0 : Int)) (cornerR n (placeR4 n c).fst (IntKind.i64.wrap ((placeR4 n c).snd.fst + List.getD ([[(0 : Int), (0 : Int)], [(1 : Int), (0 :
  Int)], [(1 : Int), (1 : Int)], [(0 : Int), (1 : Int)]].getD (Int.toNat (0 : Int)) (K.arr (2 : Nat) (K.int IntKind.i64)).dflt) (Int.toNat (0 : Int)) (0 : Int))) (IntKind.i64.wrap
  ((placeR4 n c).snd.snd.fst + List.getD ([[(0 : Int), (0 : Int)], [(1 : Int), (0 : Int)], [(1 : Int), (1 : Int)], [(0 : Int), (1 : Int)]].getD (Int.toNat (0 : Int)) (K.arr (2 :
  Nat) (K.int IntKind.i64)).dflt) (Int.toNat (1 : Int)) (0 : Int)))).fst).set (IntKind.i64.wrap ((0 : Int) + (1 : Int))).toNat (cornerR n (placeR4 n c).fst (IntKind.i64.wrap
  ((placeR4 n c).snd.fst + List.getD ([[(0 : Int), (0 : Int)], [(1 : Int), (0 : Int)], [(1 : Int), (1 : Int)], [(0 : Int), (1 : Int)]].getD (IntKind.i64.wrap ((0 : Int) + (1 :
  Int))).toNat (K.arr (2 : Nat) (K.int IntKind.i64)).dflt) (Int.toNat (0 : Int)) (0 : Int))) (IntKind.i64.wrap ((placeR4 n c).snd.snd.fst + List.getD ([[(0 : Int), (0 : Int)], [(1 :
  Int), (0 : Int)], [(1 : Int), (1 : Int)], [(0 : Int), (1 : Int)]].getD (IntKind.i64.wrap ((0 : Int) + (1 : Int))).toNat (K.arr (2 : Nat) (K.int IntKind.i64)).dflt) (Int.toNat (1 :
  Int)) (0 : Int)))).fst).length), ∃ (h : (0 : Int) ≤ IntKind.i64.wrap (IntKind.i64.wrap (IntKind.i64.wrap ((0 : Int) + (1 : Int)) + (1 : Int)) + (1 : Int)) ∧ IntKind.i64.wrap
  (IntKind.i64.wrap (IntKind.i64.wrap ((0 : Int) + (1 : Int)) + (1 : Int)) + (1 : Int)) < (↑(4 : Nat) : Int)), ∃ (h : (List.replicate (2 : Nat) (0 : Int)).length = (2 : Nat) ∧
  List.length ([[(0 : Int), (0 : Int)], [(1 : Int), (0 : Int)], [(1 : Int), (1 : Int)], [(0 : Int), (1 : Int)]].getD (IntKind.i64.wrap (IntKind.i64.wrap (IntKind.i64.wrap ((0 : Int)
  + (1 : Int)) + (1 : Int)) + (1 : Int))).toNat (K.arr (2 : Nat) (K.int IntKind.i64)).dflt) = (2 : Nat)), ∃ (h : (0 : Int) ≤ (0 : Int) ∧ (0 : Int) < (↑(2 : Nat) : Int) ∧ (2 : Nat) ≤
  List.length ([[(0 : Int), (0 : Int)], [(1 : Int), (0 : Int)], [(1 : Int), (1 : Int)], [(0 : Int), (1 : Int)]].getD (IntKind.i64.wrap (IntKind.i64.wrap (IntKind.i64.wrap ((0 : Int)
  + (1 : Int)) + (1 : Int)) + (1 : Int))).toNat (K.arr (2 : Nat) (K.int IntKind.i64)).dflt)), ∃ (h : (0 : Int) ≤ (1 : Int) ∧ (1 : Int) < (↑(2 : Nat) : Int) ∧ (2 : Nat) ≤ List.length
  ([[(0 : Int), (0 : Int)], [(1 : Int), (0 : Int)], [(1 : Int), (1 : Int)], [(0 : Int), (1 : Int)]].getD (IntKind.i64.wrap (IntKind.i64.wrap (IntKind.i64.wrap ((0 : Int) + (1 :
  Int)) + (1 : Int)) + (1 : Int))).toNat (K.arr (2 : Nat) (K.int IntKind.i64)).dflt)), ∃ (h : IIII n (placeR4 n c).fst (IntKind.i64.wrap ((placeR4 n c).snd.fst + List.getD ([[(0 :
  Int), (0 : Int)], [(1 : Int), (0 : Int)], [(1 : Int), (1 : Int)], [(0 : Int), (1 : Int)]].getD (IntKind.i64.wrap (IntKind.i64.wrap (IntKind.i64.wrap ((0 : Int) + (1 : Int)) + (1 :
  Int)) + (1 : Int))).toNat (K.arr (2 : Nat) (K.int IntKind.i64)).dflt) (Int.toNat (0 : Int)) (0 : Int))) (IntKind.i64.wrap ((placeR4 n c).snd.snd.fst + List.getD ([[(0 : Int), (0 :
  Int)], [(1 : Int), (0 : Int)], [(1 : Int), (1 : Int)], [(0 : Int), (1 : Int)]].getD (IntKind.i64.wrap (IntKind.i64.wrap (IntKind.i64.wrap ((0 : Int) + (1 : Int)) + (1 : Int)) + (1
  : Int))).toNat (K.arr (2 : Nat) (K.int IntKind.i64)).dflt) (Int.toNat (1 : Int)) (0 : Int)))), ∃ (h : (0 : Int) ≤ IntKind.i64.wrap (IntKind.i64.wrap (IntKind.i64.wrap ((0 : Int) +
  (1 : Int)) + (1 : Int)) + (1 : Int)) ∧ IntKind.i64.wrap (IntKind.i64.wrap (IntKind.i64.wrap ((0 : Int) + (1 : Int)) + (1 : Int)) + (1 : Int)) < (↑(4 : Nat) : Int) ∧ (4 : Nat) ≤
  ((((List.replicate (4 : Nat) ((K.flt Go.FloatKind.f64).pair ((K.flt Go.FloatKind.f64).pair (K.flt Go.FloatKind.f64))).dflt).set (Int.toNat (0 : Int)) (cornerR n (placeR4 n c).fst
  (IntKind.i64.wrap ((placeR4 n c).snd.fst + List.getD ([[(0 : Int), (0 : Int)], [(1 : Int), (0 : Int)], [(1 : Int), (1 : Int)], [(0 : Int), (1 : Int)]].getD (Int.toNat (0 : Int))
  (K.arr (2 : Nat) (K.int IntKind.i64)).dflt) (Int.toNat (0 : Int)) (0 : Int))) (IntKind.i64.wrap ((placeR4 n c).snd.snd.fst + List.getD ([[(0 : Int), (0 : Int)], [(1 : Int), (0 :
  Int)], [(1 : Int), (1 : Int)], [(0 : Int), (1 : Int)]].getD (Int.toNat (0 : Int)) (K.arr (2 : Nat) (K.int IntKind.i64)).dflt) (Int.toNat (1 : Int)) (0 : Int)))).fst).set
  (IntKind.i64.wrap ((0 : Int) + (1 : Int))).toNat (cornerR n (placeR4 n c).fst (IntKind.i64.wrap ((placeR4 n c).snd.fst + List.getD ([[(0 : Int), (0 : Int)], [(1 : Int), (0 :
  Int)], [(1 : Int), (1 : Int)], [(0 : Int), (1 : Int)]].getD (IntKind.i64.wrap ((0 : Int) + (1 : Int))).toNat (K.arr (2 : Nat) (K.int IntKind.i64)).dflt) (Int.toNat (0 : Int)) (0 :
  Int))) (IntKind.i64.wrap ((placeR4 n c).snd.snd.fst + List.getD ([[(0 : Int), (0 : Int)], [(1 : Int), (0 : Int)], [(1 : Int), (1 : Int)], [(0 : Int), (1 : Int)]].getD
  (IntKind.i64.wrap ((0 : Int) + (1 : Int))).toNat (K.arr (2 : Nat) (K.int IntKind.i64)).dflt) (Int.toNat (1 : Int)) (0 : Int)))).fst).set (IntKind.i64.wrap (IntKind.i64.wrap ((0 :
  Int) + (1 : Int)) + (1 : Int))).toNat (cornerR n (placeR4 n c).fst (IntKind.i64.wrap ((placeR4 n c).snd.fst + List.getD ([[(0 : Int), (0 : Int)], [(1 : Int), (0 : Int)], [(1 :
  Int), (1 : Int)], [(0 : Int), (1 : Int)]].getD (IntKind.i64.wrap (IntKind.i64.wrap ((0 : Int) + (1 : Int)) + (1 : Int))).toNat (K.arr (2 : Nat) (K.int IntKind.i64)).dflt)
  (Int.toNat (0 : Int)) (0 : Int))) (IntKind.i64.wrap ((placeR4 n c).snd.snd.fst + List.getD ([[(0 : Int), (0 : Int)], [(1 : Int), (0 : Int)], [(1 : Int), (1 : Int)], [(0 : Int), (1
  : Int)]].getD (IntKind.i64.wrap (IntKind.i64.wrap ((0 : Int) + (1 : Int)) + (1 : Int))).toNat (K.arr (2 : Nat) (K.int IntKind.i64)).dflt) (Int.toNat (1 : Int)) (0 :
  Int)))).fst).length), ∃ (h : (((((List.replicate (4 : Nat) ((K.flt Go.FloatKind.f64).pair ((K.flt Go.FloatKind.f64).pair (K.flt Go.FloatKind.f64))).dflt).set (Int.toNat (0 : Int))
  (cornerR n (placeR4 n c).fst (IntKind.i64.wrap ((placeR4 n c).snd.fst + List.getD ([[(0 : Int), (0 : Int)], [(1 : Int), (0 : Int)], [(1 : Int), (1 : Int)], [(0 : Int), (1 :
  Int)]].getD (Int.toNat (0 : Int)) (K.arr (2 : Nat) (K.int IntKind.i64)).dflt) (Int.toNat (0 : Int)) (0 : Int))) (IntKind.i64.wrap ((placeR4 n c).snd.snd.fst + List.getD ([[(0 :
  Int), (0 : Int)], [(1 : Int), (0 : Int)], [(1 : Int), (1 : Int)], [(0 : Int), (1 : Int)]].getD (Int.toNat (0 : Int)) (K.arr (2 : Nat) (K.int IntKind.i64)).dflt) (Int.toNat (1 :
  Int)) (0 : Int)))).fst).set (IntKind.i64.wrap ((0 : Int) + (1 : Int))).toNat (cornerR n (placeR4 n c).fst (IntKind.i64.wrap ((placeR4 n c).snd.fst + List.getD ([[(0 : Int), (0 :
  Int)], [(1 : Int), (0 : Int)], [(1 : Int), (1 : Int)], [(0 : Int), (1 : Int)]].getD (IntKind.i64.wrap ((0 : Int) + (1 : Int))).toNat (K.arr (2 : Nat) (K.int IntKind.i64)).dflt)
  (Int.toNat (0 : Int)) (0 : Int))) (IntKind.i64.wrap ((placeR4 n c).snd.snd.fst + List.getD ([[(0 : Int), (0 : Int)], [(1 : Int), (0 : Int)], [(1 : Int), (1 : Int)], [(0 : Int), (1
  : Int)]].getD (IntKind.i64.wrap ((0 : Int) + (1 : Int))).toNat (K.arr (2 : Nat) (K.int IntKind.i64)).dflt) (Int.toNat (1 : Int)) (0 : Int)))).fst).set (IntKind.i64.wrap
  (IntKind.i64.wrap ((0 : Int) + (1 : Int)) + (1 : Int))).toNat (cornerR n (placeR4 n c).fst (IntKind.i64.wrap ((placeR4 n c).snd.fst + List.getD ([[(0 : Int), (0 : Int)], [(1 :
  Int), (0 : Int)], [(1 : Int), (1 : Int)], [(0 : Int), (1 : Int)]].getD (IntKind.i64.wrap (IntKind.i64.wrap ((0 : Int) + (1 : Int)) + (1 : Int))).toNat (K.arr (2 : Nat) (K.int
  IntKind.i64)).dflt) (Int.toNat (0 : Int)) (0 : Int))) (IntKind.i64.wrap ((placeR4 n c).snd.snd.fst + List.getD ([[(0 : Int), (0 : Int)], [(1 : Int), (0 : Int)], [(1 : Int), (1 :
  Int)], [(0 : Int), (1 : Int)]].getD (IntKind.i64.wrap (IntKind.i64.wrap ((0 : Int) + (1 : Int)) + (1 : Int))).toNat (K.arr (2 : Nat) (K.int IntKind.i64)).dflt) (Int.toNat (1 :
  Int)) (0 : Int)))).fst).set (IntKind.i64.wrap (IntKind.i64.wrap (IntKind.i64.wrap ((0 : Int) + (1 : Int)) + (1 : Int)) + (1 : Int))).toNat (cornerR n (placeR4 n c).fst
  (IntKind.i64.wrap ((placeR4 n c).snd.fst + List.getD ([[(0 : Int), (0 : Int)], [(1 : Int), (0 : Int)], [(1 : Int), (1 : Int)], [(0 : Int), (1 : Int)]].getD (IntKind.i64.wrap
  (IntKind.i64.wrap (IntKind.i64.wrap ((0 : Int) + (1 : Int)) + (1 : Int)) + (1 : Int))).toNat (K.arr (2 : Nat) (K.int IntKind.i64)).dflt) (Int.toNat (0 : Int)) (0 : Int)))
  (IntKind.i64.wrap ((placeR4 n c).snd.snd.fst + List.getD ([[(0 : Int), (0 : Int)], [(1 : Int), (0 : Int)], [(1 : Int), (1 : Int)], [(0 : Int), (1 : Int)]].getD (IntKind.i64.wrap
  (IntKind.i64.wrap (IntKind.i64.wrap ((0 : Int) + (1 : Int)) + (1 : Int)) + (1 : Int))).toNat (K.arr (2 : Nat) (K.int IntKind.i64)).dflt) (Int.toNat (1 : Int)) (0 :
  Int)))).fst).length = (4 : Nat)), ∃ (h : (List.replicate (4 : Nat) ((K.flt Go.FloatKind.f64).pair ((K.flt Go.FloatKind.f64).pair (K.flt Go.FloatKind.f64))).dflt).length = (4 :
  Nat) ∧ (((((List.replicate (4 : Nat) ((K.flt Go.FloatKind.f64).pair ((K.flt Go.FloatKind.f64).pair (K.flt Go.FloatKind.f64))).dflt).set (Int.toNat (0 : Int)) (cornerR n (placeR4 n
  c).fst (IntKind.i64.wrap ((placeR4 n c).snd.fst + List.getD ([[(0 : Int), (0 : Int)], [(1 : Int), (0 : Int)], [(1 : Int), (1 : Int)], [(0 : Int), (1 : Int)]].getD (Int.toNat (0 :
  Int)) (K.arr (2 : Nat) (K.int IntKind.i64)).dflt) (Int.toNat (0 : Int)) (0 : Int))) (IntKind.i64.wrap ((placeR4 n c).snd.snd.fst + List.getD ([[(0 : Int), (0 : Int)], [(1 : Int),
  (0 : Int)], [(1 : Int), (1 : Int)], [(0 : Int), (1 : Int)]].getD (Int.toNat (0 : Int)) (K.arr (2 : Nat) (K.int IntKind.i64)).dflt) (Int.toNat (1 : Int)) (0 : Int)))).fst).set
  (IntKind.i64.wrap ((0 : Int) + (1 : Int))).toNat (cornerR n (placeR4 n c).fst (IntKind.i64.wrap ((placeR4 n c).snd.fst + List.getD ([[(0 : Int), (0 : Int)], [(1 : Int), (0 :
  Int)], [(1 : Int), (1 : Int)], [(0 : Int), (1 : Int)]].getD (IntKind.i64.wrap ((0 : Int) + (1 : Int))).toNat (K.arr (2 : Nat) (K.int IntKind.i64)).dflt) (Int.toNat (0 : Int)) (0 :
  Int))) (IntKind.i64.wrap ((placeR4 n c).snd.snd.fst + List.getD ([[(0 : Int), (0 : Int)], [(1 : Int), (0 : Int)], [(1 : Int), (1 : Int)], [(0 : Int), (1 : Int)]].getD
  (IntKind.i64.wrap ((0 : Int) + (1 : Int))).toNat (K.arr (2 : Nat) (K.int IntKind.i64)).dflt) (Int.toNat (1 : Int)) (0 : Int)))).fst).set (IntKind.i64.wrap (IntKind.i64.wrap ((0 :
  Int) + (1 : Int)) + (1 : Int))).toNat (cornerR n (placeR4 n c).fst (IntKind.i64.wrap ((placeR4 n c).snd.fst + List.getD ([[(0 : Int), (0 : Int)], [(1 : Int), (0 : Int)], [(1 :
  Int), (1 : Int)], [(0 : Int), (1 : Int)]].getD (IntKind.i64.wrap (IntKind.i64.wrap ((0 : Int) + (1 : Int)) + (1 : Int))).toNat (K.arr (2 : Nat) (K.int IntKind.i64)).dflt)
  (Int.toNat (0 : Int)) (0 : Int))) (IntKind.i64.wrap ((placeR4 n c).snd.snd.fst + List.getD ([[(0 : Int), (0 : Int)], [(1 : Int), (0 : Int)], [(1 : Int), (1 : Int)], [(0 : Int), (1
  : Int)]].getD (IntKind.i64.wrap (IntKind.i64.wrap ((0 : Int) + (1 : Int)) + (1 : Int))).toNat (K.arr (2 : Nat) (K.int IntKind.i64)).dflt) (Int.toNat (1 : Int)) (0 :
  Int)))).fst).set (IntKind.i64.wrap (IntKind.i64.wrap (IntKind.i64.wrap ((0 : Int) + (1 : Int)) + (1 : Int)) + (1 : Int))).toNat (cornerR n (placeR4 n c).fst (IntKind.i64.wrap
  ((placeR4 n c).snd.fst + List.getD ([[(0 : Int), (0 : Int)], [(1 : Int), (0 : Int)], [(1 : Int), (1 : Int)], [(0 : Int), (1 : Int)]].getD (IntKind.i64.wrap (IntKind.i64.wrap
  (IntKind.i64.wrap ((0 : Int) + (1 : Int)) + (1 : Int)) + (1 : Int))).toNat (K.arr (2 : Nat) (K.int IntKind.i64)).dflt) (Int.toNat (0 : Int)) (0 : Int))) (IntKind.i64.wrap
  ((placeR4 n c).snd.snd.fst + List.getD ([[(0 : Int), (0 : Int)], [(1 : Int), (0 : Int)], [(1 : Int), (1 : Int)], [(0 : Int), (1 : Int)]].getD (IntKind.i64.wrap (IntKind.i64.wrap
  (IntKind.i64.wrap ((0 : Int) + (1 : Int)) + (1 : Int)) + (1 : Int))).toNat (K.arr (2 : Nat) (K.int IntKind.i64)).dflt) (Int.toNat (1 : Int)) (0 : Int)))).fst).length = (4 : Nat)),
  ∃ (h : (((((List.replicate (4 : Nat) ((K.flt Go.FloatKind.f64).pair ((K.flt Go.FloatKind.f64).pair (K.flt Go.FloatKind.f64))).dflt).set (Int.toNat (0 : Int)) (cornerR n (placeR4 n
  c).fst (IntKind.i64.wrap ((placeR4 n c).snd.fst + List.getD ([[(0 : Int), (0 : Int)], [(1 : Int), (0 : Int)], [(1 : Int), (1 : Int)], [(0 : Int), (1 : Int)]].getD (Int.toNat (0 :
  Int)) (K.arr (2 : Nat) (K.int IntKind.i64)).dflt) (Int.toNat (0 : Int)) (0 : Int))) (IntKind.i64.wrap ((placeR4 n c).snd.snd.fst + List.getD ([[(0 : Int), (0 : Int)], [(1 : Int),
  (0 : Int)], [(1 : Int), (1 : Int)], [(0 : Int), (1 : Int)]].getD (Int.toNat (0 : Int)) (K.arr (2 : Nat) (K.int IntKind.i64)).dflt) (Int.toNat (1 : Int)) (0 : Int)))).fst).set
  (IntKind.i64.wrap ((0 : Int) + (1 : Int))).toNat (cornerR n (placeR4 n c).fst (IntKind.i64.wrap ((placeR4 n c).snd.fst + List.getD ([[(0 : Int), (0 : Int)], [(1 : Int), (0 :
  Int)], [(1 : Int), (1 : Int)], [(0 : Int), (1 : Int)]].getD (IntKind.i64.wrap ((0 : Int) + (1 : Int))).toNat (K.arr (2 : Nat) (K.int IntKind.i64)).dflt) (Int.toNat (0 : Int)) (0 :
  Int))) (IntKind.i64.wrap ((placeR4 n c).snd.snd.fst + List.getD ([[(0 : Int), (0 : Int)], [(1 : Int), (0 : Int)], [(1 : Int), (1 : Int)], [(0 : Int), (1 : Int)]].getD
  (IntKind.i64.wrap ((0 : Int) + (1 : Int))).toNat (K.arr (2 : Nat) (K.int IntKind.i64)).dflt) (Int.toNat (1 : Int)) (0 : Int)))).fst).set (IntKind.i64.wrap (IntKind.i64.wrap ((0 :
  Int) + (1 : Int)) + (1 : Int))).toNat (cornerR n (placeR4 n c).fst (IntKind.i64.wrap ((placeR4 n c).snd.fst + List.getD ([[(0 : Int), (0 : Int)], [(1 : Int), (0 : Int)], [(1 :
  Int), (1 : Int)], [(0 : Int), (1 : Int)]].getD (IntKind.i64.wrap (IntKind.i64.wrap ((0 : Int) + (1 : Int)) + (1 : Int))).toNat (K.arr (2 : Nat) (K.int IntKind.i64)).dflt)
  (Int.toNat (0 : Int)) (0 : Int))) (IntKind.i64.wrap ((placeR4 n c).snd.snd.fst + List.getD ([[(0 : Int), (0 : Int)], [(1 : Int), (0 : Int)], [(1 : Int), (1 : Int)], [(0 : Int), (1
  : Int)]].getD (IntKind.i64.wrap (IntKind.i64.wrap ((0 : Int) + (1 : Int)) + (1 : Int))).toNat (K.arr (2 : Nat) (K.int IntKind.i64)).dflt) (Int.toNat (1 : Int)) (0 :
  Int)))).fst).set (IntKind.i64.wrap (IntKind.i64.wrap (IntKind.i64.wrap ((0 : Int) + (1 : Int)) + (1 : Int)) + (1 : Int))).toNat (cornerR n (placeR4 n c).fst (IntKind.i64.wrap
  ((placeR4 n c).snd.fst + List.getD ([[(0 : Int), (0 : Int)], [(1 : Int), (0 : Int)], [(1 : Int), (1 : Int)], [(0 : Int), (1 : Int)]].getD (IntKind.i64.wrap (IntKind.i64.wrap
  (IntKind.i64.wrap ((0 : Int) + (1 : Int)) + (1 : Int)) + (1 : Int))).toNat (K.arr (2 : Nat) (K.int IntKind.i64)).dflt) (Int.toNat (0 : Int)) (0 : Int))) (IntKind.i64.wrap
  ((placeR4 n c).snd.snd.fst + List.getD ([[(0 : Int), (0 : Int)], [(1 : Int), (0 : Int)], [(1 : Int), (1 : Int)], [(0 : Int), (1 : Int)]].getD (IntKind.i64.wrap (IntKind.i64.wrap
  (IntKind.i64.wrap ((0 : Int) + (1 : Int)) + (1 : Int)) + (1 : Int))).toNat (K.arr (2 : Nat) (K.int IntKind.i64)).dflt) (Int.toNat (1 : Int)) (0 : Int)))).fst).length = (4 : Nat)),
  post (((((List.replicate (4 : Nat) ((K.flt Go.FloatKind.f64).pair ((K.flt Go.FloatKind.f64).pair (K.flt Go.FloatKind.f64))).dflt).set (Int.toNat (0 : Int)) (cornerR n (placeR4 n
  c).fst (IntKind.i64.wrap ((placeR4 n c).snd.fst + List.getD ([[(0 : Int), (0 : Int)], [(1 : Int), (0 : Int)], [(1 : Int), (1 : Int)], [(0 : Int), (1 : Int)]].getD (Int.toNat (0 :
  Int)) (K.arr (2 : Nat) (K.int IntKind.i64)).dflt) (Int.toNat (0 : Int)) (0 : Int))) (IntKind.i64.wrap ((placeR4 n c).snd.snd.fst + List.getD ([[(0 : Int), (0 : Int)], [(1 : Int),
  (0 : Int)], [(1 : Int), (1 : Int)], [(0 : Int), (1 : Int)]].getD (Int.toNat (0 : Int)) (K.arr (2 : Nat) (K.int IntKind.i64)).dflt) (Int.toNat (1 : Int)) (0 : Int)))).fst).set
  (IntKind.i64.wrap ((0 : Int) + (1 : Int))).toNat (cornerR n (placeR4 n c).fst (IntKind.i64.wrap ((placeR4 n c).snd.fst + List.getD ([[(0 : Int), (0 : Int)], [(1 : Int), (0 :
  Int)], [(1 : Int), (1 : Int)], [(0 : Int), (1 : Int)]].getD (IntKind.i64.wrap ((0 : Int) + (1 : Int))).toNat (K.arr (2 : Nat) (K.int IntKind.i64)).dflt) (Int.toNat (0 : Int)) (0 :
  Int))) (IntKind.i64.wrap ((placeR4 n c).snd.snd.fst + List.getD ([[(0 : Int), (0 : Int)], [(1 : Int), (0 : Int)], [(1 : Int), (1 : Int)], [(0 : Int), (1 : Int)]].getD
  (IntKind.i64.wrap ((0 : Int) + (1 : Int))).toNat (K.arr (2 : Nat) (K.int IntKind.i64)).dflt) (Int.toNat (1 : Int)) (0 : Int)))).fst).set (IntKind.i64.wrap (IntKind.i64.wrap ((0 :
  Int) + (1 : Int)) + (1 : Int))).toNat (cornerR n (placeR4 n c).fst (IntKind.i64.wrap ((placeR4 n c).snd.fst + List.getD ([[(0 : Int), (0 : Int)], [(1 : Int), (0 : Int)], [(1 :
  Int), (1 : Int)], [(0 : Int), (1 : Int)]].getD (IntKind.i64.wrap (IntKind.i64.wrap ((0 : Int) + (1 : Int)) + (1 : Int))).toNat (K.arr (2 : Nat) (K.int IntKind.i64)).dflt)
  (Int.toNat (0 : Int)) (0 : Int))) (IntKind.i64.wrap ((placeR4 n c).snd.snd.fst + List.getD ([[(0 : Int), (0 : Int)], [(1 : Int), (0 : Int)], [(1 : Int), (1 : Int)], [(0 : Int), (1
  : Int)]].getD (IntKind.i64.wrap (IntKind.i64.wrap ((0 : Int) + (1 : Int)) + (1 : Int))).toNat (K.arr (2 : Nat) (K.int IntKind.i64)).dflt) (Int.toNat (1 : Int)) (0 :
  Int)))).fst).set (IntKind.i64.wrap (IntKind.i64.wrap (IntKind.i64.wrap ((0 : Int) + (1 : Int)) + (1 : Int)) + (1 : Int))).toNat (cornerR n (placeR4 n c).fst (IntKind.i64.wrap
  ((placeR4 n c).snd.fst + List.getD ([[(0 : Int), (0 : Int)], [(1 : Int), (0 : Int)], [(1 : Int), (1 : Int)], [(0 : Int), (1 : Int)]].getD (IntKind.i64.wrap (IntKind.i64.wrap
  (IntKind.i64.wrap ((0 : Int) + (1 : Int)) + (1 : Int)) + (1 : Int))).toNat (K.arr (2 : Nat) (K.int IntKind.i64)).dflt) (Int.toNat (0 : Int)) (0 : Int))) (IntKind.i64.wrap
  ((placeR4 n c).snd.snd.fst + List.getD ([[(0 : Int), (0 : Int)], [(1 : Int), (0 : Int)], [(1 : Int), (1 : Int)], [(0 : Int), (1 : Int)]].getD (IntKind.i64.wrap (IntKind.i64.wrap
  (IntKind.i64.wrap ((0 : Int) + (1 : Int)) + (1 : Int)) + (1 : Int))).toNat (K.arr (2 : Nat) (K.int IntKind.i64)).dflt) (Int.toNat (1 : Int)) (0 : Int)))).fst, Bool.true, ()))
theorem Lx_geom_corners (n : Int) (c : Int) (h : II n c) : Fx_geom_corners  n c (fun r => r = cornersR n c) := by
  obtain ⟨hn, hc⟩ := h
  refine ⟨⟨hn, hc⟩, Br.intro (fun e => ?_) fun e => ?_⟩
  · refine ⟨⟨by decide, by decide⟩, by decide, ?_⟩
    have ok : placeOk n c = false := by
      cases q : placeOk n c with
      | false => rfl
      | true => unfold placeR4 at e; rw [if_pos q] at e; cases e
    unfold cornersR; rw [if_neg (by rw [ok]; decide)]
  have ok : placeOk n c = true := by
    cases q : placeOk n c with
    | true => rfl
    | false => unfold placeR4 at e; rw [if_neg (by rw [q]; decide)] at e; cases e
  obtain ⟨h1, h2, h3, h4, h5, h6⟩ := place_facts ok
  obtain ⟨r1, r2, r3, r4, r5, r6⟩ := place_rng ok
  have hp : placeR4 n c = (c / (n * n), c % n, c / n % n, true, ()) := by unfold placeR4; rw [if_pos ok]
  have hf : I64 (c / (n * n)) := ⟨by omega, by omega⟩
  have ho : ∀ x, 0 ≤ x → x ≤ 33 → I64 x := fun x a b => ⟨by omega, by omega⟩
  have w0 : ∀ x, 0 ≤ x → x ≤ 33 → IntKind.i64.wrap (x + 0) = x := fun x a b => by rw [Int.add_zero, wi (ho x a b)]
  have w1 : ∀ x, 0 ≤ x → x ≤ 32 → IntKind.i64.wrap (x + 1) = x + 1 := fun x a b => wi (ho _ (by omega) (by omega))
  have hC : ∀ i j, 0 ≤ i → i ≤ n → 0 ≤ j → j ≤ n → cornerR n (c / (n * n)) i j = (cornerQ n (c / (n * n)) i j, true, ()) := by
    intro i j a1 a2 a3 a4
    unfold cornerR
    rw [if_pos]
    unfold cornerOk
    rw [goodC_iff.2 ⟨h1, h2⟩, decide_eq_true (by omega), decide_eq_true (by omega), decide_eq_true (by omega), decide_eq_true (by omega), decide_eq_true (by omega), decide_eq_true (by omega)]
    rfl
  have a0 := w0 (c % n) (by omega) (by omega)
  have a1 := w1 (c % n) (by omega) (by omega)
  have b0 := w0 (c / n % n) (by omega) (by omega)
  have b1 := w1 (c / n % n) (by omega) (by omega)
  have A0 : I64 (IntKind.i64.wrap (c % n + 0)) := by rw [a0]; exact ho _ (by omega) (by omega)
  have A1 : I64 (IntKind.i64.wrap (c % n + 1)) := by rw [a1]; exact ho _ (by omega) (by omega)
  have B0 : I64 (IntKind.i64.wrap (c / n % n + 0)) := by rw [b0]; exact ho _ (by omega) (by omega)
  have B1 : I64 (IntKind.i64.wrap (c / n % n + 1)) := by rw [b1]; exact ho _ (by omega) (by omega)
  rw [hp]
  refine ⟨by decide, ⟨by decide, by decide⟩, ⟨by decide, by decide, by decide⟩, ⟨by decide, by decide, by decide⟩, ⟨hn, hf, A0, B0⟩, ⟨by decide, by decide, Nat.le_refl 4⟩,
    by decide, ⟨by decide, by decide⟩, ⟨by decide, by decide, by decide⟩, ⟨by decide, by decide, by decide⟩, ⟨hn, hf, A1, B0⟩, ⟨by decide, by decide, Nat.le_refl 4⟩,
    by decide, ⟨by decide, by decide⟩, ⟨by decide, by decide, by decide⟩, ⟨by decide, by decide, by decide⟩, ⟨hn, hf, A1, B1⟩, ⟨by decide, by decide, Nat.le_refl 4⟩,
    by decide, ⟨by decide, by decide⟩, ⟨by decide, by decide, by decide⟩, ⟨by decide, by decide, by decide⟩, ⟨hn, hf, A0, B1⟩, ⟨by decide, by decide, Nat.le_refl 4⟩, rfl, ⟨rfl, rfl⟩, rfl, ?_⟩
  show ([(cornerR n (c / (n * n)) (IntKind.i64.wrap (c % n + 0)) (IntKind.i64.wrap (c / n % n + 0))).1, (cornerR n (c / (n * n)) (IntKind.i64.wrap (c % n + 1)) (IntKind.i64.wrap (c / n % n + 0))).1, (cornerR n (c / (n * n)) (IntKind.i64.wrap (c % n + 1)) (IntKind.i64.wrap (c / n % n + 1))).1, (cornerR n (c / (n * n)) (IntKind.i64.wrap (c % n + 0)) (IntKind.i64.wrap (c / n % n + 1))).1], true, ()) = _
  rw [a0, a1, b0, b1, hC _ _ (by omega) (by omega) (by omega) (by omega), hC _ _ (by omega) (by omega) (by omega) (by omega), hC _ _ (by omega) (by omega) (by omega) (by omega), hC _ _ (by omega) (by omega) (by omega) (by omega)]
  unfold cornersR; rw [if_pos ok]
def Fx_geom_Area := fun (n c : Int) (post : Int × Unit → Prop) => ∃ (h : II n c), ∃ (h : (List.replicate (4 : Nat) ((K.flt Go.FloatKind.f64).pair ((K.flt Go.FloatKind.f64).pair
  (K.flt Go.FloatKind.f64))).dflt).length = (4 : Nat) ∧ (cornersR n c).fst.length = (4 : Nat)), Br (!(cornersR n c).snd.fst) (post ((0 : Int), ())) (∃ (h : (0 : Int) ≤ (2 : Int) ∧
  (2 : Int) < (↑(4 : Nat) : Int) ∧ (4 : Nat) ≤ (cornersR n c).fst.length), ∃ (h : (0 : Int) ≤ (0 : Int) ∧ (0 : Int) < (↑(4 : Nat) : Int) ∧ (4 : Nat) ≤ (cornersR n c).fst.length), ∃
  (h : WV2 ((cornersR n c).fst.getD (Int.toNat (2 : Int)) ((K.flt Go.FloatKind.f64).pair ((K.flt Go.FloatKind.f64).pair (K.flt Go.FloatKind.f64))).dflt) ((cornersR n c).fst.getD
  (Int.toNat (0 : Int)) ((K.flt Go.FloatKind.f64).pair ((K.flt Go.FloatKind.f64).pair (K.flt Go.FloatKind.f64))).dflt)), ∃ (h : (0 : Int) ≤ (3 : Int) ∧ (3 : Int) < (↑(4 : Nat) :
  Int) ∧ (4 : Nat) ≤ (cornersR n c).fst.length), ∃ (h : (0 : Int) ≤ (1 : Int) ∧ (1 : Int) < (↑(4 : Nat) : Int) ∧ (4 : Nat) ≤ (cornersR n c).fst.length), ∃ (h : WV2 ((cornersR n
  c).fst.getD (Int.toNat (3 : Int)) ((K.flt Go.FloatKind.f64).pair ((K.flt Go.FloatKind.f64).pair (K.flt Go.FloatKind.f64))).dflt) ((cornersR n c).fst.getD (Int.toNat (1 : Int))
  ((K.flt Go.FloatKind.f64).pair ((K.flt Go.FloatKind.f64).pair (K.flt Go.FloatKind.f64))).dflt)), ∃ (h : True), ∃ (h : WV (crossR (minusR ((cornersR n c).fst.getD (Int.toNat (2 :
  Int)) ((K.flt Go.FloatKind.f64).pair ((K.flt Go.FloatKind.f64).pair (K.flt Go.FloatKind.f64))).dflt) ((cornersR n c).fst.getD (Int.toNat (0 : Int)) ((K.flt Go.FloatKind.f64).pair
  ((K.flt Go.FloatKind.f64).pair (K.flt Go.FloatKind.f64))).dflt)).fst (minusR ((cornersR n c).fst.getD (Int.toNat (3 : Int)) ((K.flt Go.FloatKind.f64).pair ((K.flt
  Go.FloatKind.f64).pair (K.flt Go.FloatKind.f64))).dflt) ((cornersR n c).fst.getD (Int.toNat (1 : Int)) ((K.flt Go.FloatKind.f64).pair ((K.flt Go.FloatKind.f64).pair (K.flt
  Go.FloatKind.f64))).dflt)).fst).fst), ∀ (a : Nat), FRes Go.FloatKind.f64 (Go.FloatKind.f64.format.mul (lengthR (crossR (minusR ((cornersR n c).fst.getD (Int.toNat (2 : Int))
  ((K.flt Go.FloatKind.f64).pair ((K.flt Go.FloatKind.f64).pair (K.flt Go.FloatKind.f64))).dflt) ((cornersR n c).fst.getD (Int.toNat (0 : Int)) ((K.flt Go.FloatKind.f64).pair
  ((K.flt Go.FloatKind.f64).pair (K.flt Go.FloatKind.f64))).dflt)).fst (minusR ((cornersR n c).fst.getD (Int.toNat (3 : Int)) ((K.flt Go.FloatKind.f64).pair ((K.flt
  Go.FloatKind.f64).pair (K.flt Go.FloatKind.f64))).dflt) ((cornersR n c).fst.getD (Int.toNat (1 : Int)) ((K.flt Go.FloatKind.f64).pair ((K.flt Go.FloatKind.f64).pair (K.flt
  Go.FloatKind.f64))).dflt)).fst).fst).fst (4602678819172646912 : Nat)) a → ∀ (a_1 : Nat), FRes Go.FloatKind.f64 (Go.FloatKind.f64.format.mul a (4742290407621132288 : Nat)) a_1 → ∃
  (h : W64 a_1), post (imax (roundR a_1).fst (1 : Int), ()))
theorem Lx_geom_Area (n : Int) (c : Int) (h : II n c) : Fx_geom_Area  n c (fun r => r = areaR n c) := by
  have g0 : ∀ i : Nat, WV ((cornersR n c).fst.getD i ((K.flt Go.FloatKind.f64).pair ((K.flt Go.FloatKind.f64).pair (K.flt Go.FloatKind.f64))).dflt) := corners_w n c
  have hl := corners_len n c
  refine ⟨h, ⟨by decide, hl⟩, ?_⟩
  rw [hl]
  refine Br.intro (fun e => ?_) fun e => ?_
  · rw [corners_ok] at e
    exact congrArg r1 (by unfold areaI; rw [if_neg (by intro q; rw [q] at e; cases e)])
  rw [corners_ok] at e
  have ok : placeOk n c = true := by simpa using e
  refine ⟨⟨by decide, by decide, Nat.le_refl 4⟩, ⟨by decide, by decide, Nat.le_refl 4⟩, ⟨g0 2, g0 0⟩, ⟨by decide, by decide, Nat.le_refl 4⟩, ⟨by decide, by decide, Nat.le_refl 4⟩, ⟨g0 3, g0 1⟩, trivial, crossV_w _ _, ?_⟩
  intro x hx y hy
  obtain ⟨x1, x2⟩ := fmul hx
  obtain ⟨y1, y2⟩ := fmul hy
  refine ⟨y2, congrArg r1 ?_⟩
  have hs : cornersR n c = ([cornerC n c 0 0, cornerC n c 1 0, cornerC n c 1 1, cornerC n c 0 1], true, ()) := by
    unfold cornersR; rw [if_pos ok]; unfold cornerC; rw [Int.add_zero, Int.add_zero]
  have hq : [cornerC n c 0 0, cornerC n c 1 0, cornerC n c 1 1, cornerC n c 0 1] = (cornersR n c).1 := by rw [hs]
  have hx1 : quietF x = mulQ (spanQ n c) halfR := by
    rw [x1]
    exact congrArg (fun z => mulQ z 4602678819172646912) (span_l (z := (0, 0, 0)) hq.symm)
  have hy1 : quietF y = mulQ (mulQ (spanQ n c) halfR) unitArea := by
    rw [y1]
    have u : quietF x = quietF (mulQ (spanQ n c) halfR) := by rw [hx1, mulQ_q]
    exact mulQ_congr u rfl
  show imax (roundI y).1 1 = areaI n c
  unfold areaI
  rw [if_pos ok, round_quiet y2, hy1]
end Go.Lift

set_option linter.unusedVariables false
set_option linter.unusedSimpArgs false
namespace Go.Lift
def Fx_vec_canon := fun (a b c : Nat) (post : (Nat × Nat × Nat) × Unit → Prop) => ∃ (h : True), ∃ (h : True), ∃ (h : True), post (((canonR a).fst, (canonR b).fst, (canonR c).fst),
  ())
theorem Lx_vec_canon (a : Nat) (b : Nat) (c : Nat) : Fx_vec_canon  a b c (fun r => r = canonVR a b c) := by
  exact ⟨trivial, trivial, trivial, rfl⟩
def Fx_vec_Minus := fun (a b : Nat × Nat × Nat) (post : (Nat × Nat × Nat) × Unit → Prop) => ∀ (a_1 : Nat), FRes Go.FloatKind.f64 (Go.FloatKind.f64.format.sub a.fst b.fst) a_1 → ∀
  (a_2 : Nat), FRes Go.FloatKind.f64 (Go.FloatKind.f64.format.sub a.snd.fst b.snd.fst) a_2 → ∀ (a_3 : Nat), FRes Go.FloatKind.f64 (Go.FloatKind.f64.format.sub a.snd.snd b.snd.snd)
  a_3 → ∃ (h : True), post (((canonVR a_1 a_2 a_3).fst.fst, (canonVR a_1 a_2 a_3).fst.snd.fst, (canonVR a_1 a_2 a_3).fst.snd.snd), ())
theorem Lx_vec_Minus (a : Nat × Nat × Nat) (b : Nat × Nat × Nat) (h : WV2 a b) : Fx_vec_Minus  a b (fun r => r = minusR a b) := by
  intro x hx y hy z hz
  exact ⟨trivial, congrArg r1 (canonV_congr (fsub hx).1 (fsub hy).1 (fsub hz).1)⟩
def Fx_vec_Cross := fun (a b : Nat × Nat × Nat) (post : (Nat × Nat × Nat) × Unit → Prop) => ∀ (a_1 : Nat), FRes Go.FloatKind.f64 (Go.FloatKind.f64.format.mul a.snd.fst b.snd.snd)
  a_1 → ∀ (a_2 : Nat), FRes Go.FloatKind.f64 (Go.FloatKind.f64.format.mul a.snd.snd b.snd.fst) a_2 → ∀ (a_3 : Nat), FRes Go.FloatKind.f64 (Go.FloatKind.f64.format.sub a_1 a_2) a_3 →
  ∀ (a_4 : Nat), FRes Go.FloatKind.f64 (Go.FloatKind.f64.format.mul a.snd.snd b.fst) a_4 → ∀ (a_5 : Nat), FRes Go.FloatKind.f64 (Go.FloatKind.f64.format.mul a.fst b.snd.snd) a_5 → ∀
  (a_6 : Nat), FRes Go.FloatKind.f64 (Go.FloatKind.f64.format.sub a_4 a_5) a_6 → ∀ (a_7 : Nat), FRes Go.FloatKind.f64 (Go.FloatKind.f64.format.mul a.fst b.snd.fst) a_7 → ∀ (a_8 :
  Nat), FRes Go.FloatKind.f64 (Go.FloatKind.f64.format.mul a.snd.fst b.fst) a_8 → ∀ (a : Nat), FRes Go.FloatKind.f64 (Go.FloatKind.f64.format.sub a_7 a_8) a → ∃ (h : True), post
  (((canonVR a_3 a_6 a).fst.fst, (canonVR a_3 a_6 a).fst.snd.fst, (canonVR a_3 a_6 a).fst.snd.snd), ())
theorem Lx_vec_Cross (a : Nat × Nat × Nat) (b : Nat × Nat × Nat) : Fx_vec_Cross  a b (fun r => r = crossR a b) := by
  intro x1 h1 x2 h2 x3 h3 x4 h4 x5 h5 x6 h6 x7 h7 x8 h8 x9 h9
  exact ⟨trivial, congrArg r1 (canonV_congr (less_eq (fmul h1).1 (fmul h2).1 (fsub h3).1) (less_eq (fmul h4).1 (fmul h5).1 (fsub h6).1) (less_eq (fmul h7).1 (fmul h8).1 (fsub h9).1))⟩
def Fx_math_Sqrt := fun (a : Nat) (post : Nat × Unit → Prop) => ∃ (h : True), ∀ (a_1 : Nat × Unit), sqrtP a a_1 → post (a_1.fst, ())
theorem Lx_math_Sqrt (a : Nat) : Fx_math_Sqrt  a (fun r => sqrtP a r) := by
  exact ⟨trivial, fun x hx => hx⟩
def Fx_vec_Length := fun (a : Nat × Nat × Nat) (post : Nat × Unit → Prop) => ∀ (a_1 : Nat), FRes Go.FloatKind.f64 (Go.FloatKind.f64.format.mul a.fst a.fst) a_1 → ∀ (a_2 : Nat), FRes
  Go.FloatKind.f64 (Go.FloatKind.f64.format.mul a.snd.fst a.snd.fst) a_2 → ∀ (a_3 : Nat), FRes Go.FloatKind.f64 (Go.FloatKind.f64.format.mul a.snd.snd a.snd.snd) a_3 → ∃ (h : W3 a_1
  a_2 a_3), ∃ (h : True), ∀ (a : Nat × Unit), sqrtP (threeR a_1 a_2 a_3).fst a → ∃ (h : True), post ((canonR a.fst).fst, ())
theorem Lx_vec_Length (a : Nat × Nat × Nat) (h : WV a) : Fx_vec_Length  a (fun r => r = lengthR a) := by
  intro x hx y hy z hz
  exact ⟨⟨(fmul hx).2, (fmul hy).2, (fmul hz).2⟩, trivial, fun w hw => ⟨trivial, congrArg r1 (length_eq (fmul hx).1 (fmul hy).1 (fmul hz).1 hw.1)⟩⟩
def Fx_vec_Gap := fun (a b : Nat × Nat × Nat) (post : Nat × Unit → Prop) => ∃ (h : WV2 (a.fst, a.snd.fst, a.snd.snd) (b.fst, b.snd.fst, b.snd.snd)), ∃ (h : WV (minusR (a.fst,
  a.snd.fst, a.snd.snd) (b.fst, b.snd.fst, b.snd.snd)).fst), post ((lengthR (minusR (a.fst, a.snd.fst, a.snd.snd) (b.fst, b.snd.fst, b.snd.snd)).fst).fst, ())
theorem Lx_vec_Gap (a : Nat × Nat × Nat) (b : Nat × Nat × Nat) (h : WV2 a b) : Fx_vec_Gap  a b (fun r => r = gapR a b) := by
  exact ⟨h, minusV_w _ _, rfl⟩
def Fx_vec_Unit := fun (a : Nat × Nat × Nat) (post : (Nat × Nat × Nat) × Unit → Prop) => ∃ (h : WV (a.fst, a.snd.fst, a.snd.snd)), ∀ (a_1 : Bool), a_1 = fcmp Go.BinOp.gtr
  (Go.FloatKind.f64.format.order (lengthR (a.fst, a.snd.fst, a.snd.snd)).fst (0 : Nat)) → Br (!a_1) (post (((0 : Nat), (0 : Nat), (0 : Nat)), ())) (∃ (h : WI (lengthR (a.fst,
  a.snd.fst, a.snd.snd)).fst (1 : Int)), ∀ (a_2 : Bool), a_2 = (infSR (lengthR (a.fst, a.snd.fst, a.snd.snd)).fst (1 : Int)).fst → Br a_2 (post (((0 : Nat), (0 : Nat), (0 : Nat)),
  ())) (∀ (a_3 : Nat), FRes Go.FloatKind.f64 (Go.FloatKind.f64.format.div a.fst (lengthR (a.fst, a.snd.fst, a.snd.snd)).fst) a_3 → ∀ (a_4 : Nat), FRes Go.FloatKind.f64
  (Go.FloatKind.f64.format.div a.snd.fst (lengthR (a.fst, a.snd.fst, a.snd.snd)).fst) a_4 → ∀ (a_5 : Nat), FRes Go.FloatKind.f64 (Go.FloatKind.f64.format.div a.snd.snd (lengthR
  (a.fst, a.snd.fst, a.snd.snd)).fst) a_5 → ∃ (h : True), post (((canonVR a_3 a_4 a_5).fst.fst, (canonVR a_3 a_4 a_5).fst.snd.fst, (canonVR a_3 a_4 a_5).fst.snd.snd), ())))
theorem Lx_vec_Unit (a : Nat × Nat × Nat) (h : WV a) : Fx_vec_Unit  a (fun r => r = unitR a) := by
  refine ⟨h, ?_⟩
  have hs := lengthQ_sgn a
  have hg := gt_zero hs
  rintro _ rfl
  refine Br.intro (fun e => ?_) fun e => ⟨lengthQ_w a, ?_⟩
  · have e : (!fcmp .gtr (Ieee.double.order (lengthQ a) 0)) = true := e
    rw [hg] at e
    refine (congrArg r1 (unit_zero ?_)).symm
    rw [class12]
    rintro ⟨h1, h2⟩
    have : isN (lengthQ a) = false := by unfold isN; simp; omega
    rw [this] at e
    simp [h1] at e
  · have e : (!fcmp .gtr (Ieee.double.order (lengthQ a) 0)) = false := e
    rw [hg] at e
    have e : isN (lengthQ a) = false ∧ rungOf (lengthQ a) ≠ 0 := by simpa using e
    have hi : infS (lengthQ a) 1 = decide (rungOf (lengthQ a) = infR) := by unfold infS; rw [if_neg (by decide), if_neg (by decide), hs]; simp
    rintro _ rfl
    refine Br.intro (fun f => ?_) fun f => ?_
    · have f : infS (lengthQ a) 1 = true := f
      rw [hi] at f
      have f := of_decide_eq_true f
      exact (congrArg r1 (unit_zero (by rw [class12]; rintro ⟨h1, h2⟩; omega))).symm
    · have f : infS (lengthQ a) 1 = false := f
      rw [hi] at f
      have f := of_decide_eq_false f
      have g : rungOf (lengthQ a) ≤ infR := by have := e.1; unfold isN at this; simpa using this
      intro x hx y hy z hz
      exact ⟨trivial, congrArg r1 (unit_some ((class12 _).2 ⟨e.2, by omega⟩) (fdiv hx).1 (fdiv hy).1 (fdiv hz).1)⟩
end Go.Lift

set_option linter.unusedVariables false
set_option linter.unusedSimpArgs false
namespace Go.Lift
open Go.Proofs
def Rbx_vec_canon : Cx := ⟨tabOf Rbtab, conOf [(88, Rbq_bits_Canon)], RbG⟩
theorem Rbx_vec_canon_ok : CxOk Tryz.prog Rbx_vec_canon := ⟨tabB_sound Rbtab_ok, conOf_sound ⟨Rbh_bits_Canon, trivial⟩⟩
theorem Rbat_vec_canon : FnAt Tryz.prog 150 Tryz.f150.ntmps Tryz.f150.results.toList (Tryz.f150.body.getD .skip) := ⟨Tryz.f150, Tryz.func150, rfl, rfl, by simp, by decide⟩
theorem Rbeq_vec_canon (a : Nat) (b : Nat) (c : Nat) (post : (Nat × Nat × Nat) × Unit → Prop) : fnEval Rbx_vec_canon nHn Tryz.f150.ntmps Tryz.f150.results.toList (Tryz.f150.body.getD .skip) [.flt .f64, .flt .f64, .flt .f64] [.snap kVec] (a, b, c, ()) post = Fx_vec_canon  a b c post := by kernel_rfl
theorem Rbh_vec_canon : Rbq_vec_canon.holds Tryz.prog RbG 150 :=
  detP Rbx_vec_canon_ok Rbmixed nHn Rbat_vec_canon (F := fun x post => Fx_vec_canon  x.1 x.2.1 x.2.2.1 post) (fun x post => Rbeq_vec_canon x.1 x.2.1 x.2.2.1 post) fun x _ _ => Lx_vec_canon  x.1 x.2.1 x.2.2.1
def Rbx_vec_Minus : Cx := ⟨tabOf Rbtab, conOf [(150, Rbq_vec_canon)], RbG⟩
theorem Rbx_vec_Minus_ok : CxOk Tryz.prog Rbx_vec_Minus := ⟨tabB_sound Rbtab_ok, conOf_sound ⟨Rbh_vec_canon, trivial⟩⟩
theorem Rbat_vec_Minus : FnAt Tryz.prog 125 Tryz.f125.ntmps Tryz.f125.results.toList (Tryz.f125.body.getD .skip) := ⟨Tryz.f125, Tryz.func125, rfl, rfl, by simp, by decide⟩
theorem Rbeq_vec_Minus (a : Nat × Nat × Nat) (b : Nat × Nat × Nat) (post : (Nat × Nat × Nat) × Unit → Prop) : fnEval Rbx_vec_Minus nHn Tryz.f125.ntmps Tryz.f125.results.toList (Tryz.f125.body.getD .skip) [kVec, kVec] [.snap kVec] (a, b, ()) post = Fx_vec_Minus  a b post := by kernel_rfl
theorem Rbh_vec_Minus : Rbq_vec_Minus.holds Tryz.prog RbG 125 :=
  detP Rbx_vec_Minus_ok Rbmixed nHn Rbat_vec_Minus (F := fun x post => Fx_vec_Minus  x.1 x.2.1 post) (fun x post => Rbeq_vec_Minus x.1 x.2.1 post) fun x h _ => Lx_vec_Minus  x.1 x.2.1 h
def Rbx_vec_Cross : Cx := ⟨tabOf Rbtab, conOf [(150, Rbq_vec_canon)], RbG⟩
theorem Rbx_vec_Cross_ok : CxOk Tryz.prog Rbx_vec_Cross := ⟨tabB_sound Rbtab_ok, conOf_sound ⟨Rbh_vec_canon, trivial⟩⟩
theorem Rbat_vec_Cross : FnAt Tryz.prog 124 Tryz.f124.ntmps Tryz.f124.results.toList (Tryz.f124.body.getD .skip) := ⟨Tryz.f124, Tryz.func124, rfl, rfl, by simp, by decide⟩
theorem Rbeq_vec_Cross (a : Nat × Nat × Nat) (b : Nat × Nat × Nat) (post : (Nat × Nat × Nat) × Unit → Prop) : fnEval Rbx_vec_Cross nHn Tryz.f124.ntmps Tryz.f124.results.toList (Tryz.f124.body.getD .skip) [kVec, kVec] [.snap kVec] (a, b, ()) post = Fx_vec_Cross  a b post := by kernel_rfl
theorem Rbh_vec_Cross : Rbq_vec_Cross.holds Tryz.prog RbG 124 :=
  detP Rbx_vec_Cross_ok Rbmixed nHn Rbat_vec_Cross (F := fun x post => Fx_vec_Cross  x.1 x.2.1 post) (fun x post => Rbeq_vec_Cross x.1 x.2.1 post) fun x _ _ => Lx_vec_Cross  x.1 x.2.1
def Rbx_math_Sqrt : Cx := ⟨tabOf Rbtab, conOf [(166, Rbq_math_sqrt)], RbG⟩
theorem Rbx_math_Sqrt_ok : CxOk Tryz.prog Rbx_math_Sqrt := ⟨tabB_sound Rbtab_ok, conOf_sound ⟨Rbh_math_sqrt, trivial⟩⟩
theorem Rbat_math_Sqrt : FnAt Tryz.prog 148 Tryz.f148.ntmps Tryz.f148.results.toList (Tryz.f148.body.getD .skip) := ⟨Tryz.f148, Tryz.func148, rfl, rfl, by simp, by decide⟩
theorem Rbeq_math_Sqrt (a : Nat) (post : Nat × Unit → Prop) : fnEval Rbx_math_Sqrt nHn Tryz.f148.ntmps Tryz.f148.results.toList (Tryz.f148.body.getD .skip) [.flt .f64] [.snap (.flt .f64)] (a, ()) post = Fx_math_Sqrt  a post := by kernel_rfl
theorem Rbh_math_Sqrt : Rbq_math_Sqrt.holds Tryz.prog RbG 148 :=
  relP Rbx_math_Sqrt_ok Rbmixed nHn Rbat_math_Sqrt (F := fun x post => Fx_math_Sqrt  x.1 post) (fun x post => Rbeq_math_Sqrt x.1 post) fun x _ _ => Lx_math_Sqrt  x.1
def Rbx_vec_Length : Cx := ⟨tabOf Rbtab, conOf [(149, Rbq_sum_Three), (148, Rbq_math_Sqrt), (88, Rbq_bits_Canon)], RbG⟩
theorem Rbx_vec_Length_ok : CxOk Tryz.prog Rbx_vec_Length := ⟨tabB_sound Rbtab_ok, conOf_sound ⟨Rbh_sum_Three, Rbh_math_Sqrt, Rbh_bits_Canon, trivial⟩⟩
theorem Rbat_vec_Length : FnAt Tryz.prog 123 Tryz.f123.ntmps Tryz.f123.results.toList (Tryz.f123.body.getD .skip) := ⟨Tryz.f123, Tryz.func123, rfl, rfl, by simp, by decide⟩
theorem Rbeq_vec_Length (a : Nat × Nat × Nat) (post : Nat × Unit → Prop) : fnEval Rbx_vec_Length nHn Tryz.f123.ntmps Tryz.f123.results.toList (Tryz.f123.body.getD .skip) [kVec] [.snap (.flt .f64)] (a, ()) post = Fx_vec_Length  a post := by kernel_rfl
theorem Rbh_vec_Length : Rbq_vec_Length.holds Tryz.prog RbG 123 :=
  detP Rbx_vec_Length_ok Rbmixed nHn Rbat_vec_Length (F := fun x post => Fx_vec_Length  x.1 post) (fun x post => Rbeq_vec_Length x.1 post) fun x h _ => Lx_vec_Length  x.1 h
def Rbx_vec_Gap : Cx := ⟨tabOf Rbtab, conOf [(125, Rbq_vec_Minus), (123, Rbq_vec_Length)], RbG⟩
theorem Rbx_vec_Gap_ok : CxOk Tryz.prog Rbx_vec_Gap := ⟨tabB_sound Rbtab_ok, conOf_sound ⟨Rbh_vec_Minus, Rbh_vec_Length, trivial⟩⟩
theorem Rbat_vec_Gap : FnAt Tryz.prog 100 Tryz.f100.ntmps Tryz.f100.results.toList (Tryz.f100.body.getD .skip) := ⟨Tryz.f100, Tryz.func100, rfl, rfl, by simp, by decide⟩
theorem Rbeq_vec_Gap (a : Nat × Nat × Nat) (b : Nat × Nat × Nat) (post : Nat × Unit → Prop) : fnEval Rbx_vec_Gap nHn Tryz.f100.ntmps Tryz.f100.results.toList (Tryz.f100.body.getD .skip) [kVec, kVec] [.snap (.flt .f64)] (a, b, ()) post = Fx_vec_Gap  a b post := by kernel_rfl
theorem Rbh_vec_Gap : Rbq_vec_Gap.holds Tryz.prog RbG 100 :=
  detP Rbx_vec_Gap_ok Rbmixed nHn Rbat_vec_Gap (F := fun x post => Fx_vec_Gap  x.1 x.2.1 post) (fun x post => Rbeq_vec_Gap x.1 x.2.1 post) fun x h _ => Lx_vec_Gap  x.1 x.2.1 h
def Rbx_vec_Unit : Cx := ⟨tabOf Rbtab, conOf [(123, Rbq_vec_Length), (173, Rbq_math_IsInf), (150, Rbq_vec_canon)], RbG⟩
theorem Rbx_vec_Unit_ok : CxOk Tryz.prog Rbx_vec_Unit := ⟨tabB_sound Rbtab_ok, conOf_sound ⟨Rbh_vec_Length, Rbh_math_IsInf, Rbh_vec_canon, trivial⟩⟩
theorem Rbat_vec_Unit : FnAt Tryz.prog 153 Tryz.f153.ntmps Tryz.f153.results.toList (Tryz.f153.body.getD .skip) := ⟨Tryz.f153, Tryz.func153, rfl, rfl, by simp, by decide⟩
theorem Rbeq_vec_Unit (a : Nat × Nat × Nat) (post : (Nat × Nat × Nat) × Unit → Prop) : fnEval Rbx_vec_Unit nHn Tryz.f153.ntmps Tryz.f153.results.toList (Tryz.f153.body.getD .skip) [kVec] [.snap kVec] (a, ()) post = Fx_vec_Unit  a post := by kernel_rfl
theorem Rbh_vec_Unit : Rbq_vec_Unit.holds Tryz.prog RbG 153 :=
  detP Rbx_vec_Unit_ok Rbmixed nHn Rbat_vec_Unit (F := fun x post => Fx_vec_Unit  x.1 post) (fun x post => Rbeq_vec_Unit x.1 post) fun x h _ => Lx_vec_Unit  x.1 h
end Go.Lift

set_option linter.unusedVariables false
set_option linter.unusedSimpArgs false
namespace Go.Lift
def Fx_math_Floor := fun (a : Nat) (post : Nat × Unit → Prop) => ∃ (h : WNum a), post ((floorR a).fst, ())
theorem Lx_math_Floor (a : Nat) (h : WNum a) : Fx_math_Floor  a (fun r => r = floorR a) := by
  exact ⟨h, rfl⟩
def Fx_conv_near := fun (a : Nat) (post : Int × Unit → Prop) => ∃ (h : WNum a), ∀ (a_1 : Int), F2I Go.FloatKind.f64 (floorR a).fst IntKind.u64 a_1 → ∀ (a_2 : Nat), FRes
  Go.FloatKind.f64 (Go.FloatKind.f64.format.sub a (floorR a).fst) a_2 → ∀ (a : Bool), a = fcmp Go.BinOp.gtr (Go.FloatKind.f64.format.order a_2 (4602678819172646912 : Nat)) → Br a
  (post (IntKind.u64.wrap (a_1 + (1 : Int)), ())) (∀ (a : Bool), a = fcmp Go.BinOp.eql (Go.FloatKind.f64.format.order a_2 (4602678819172646912 : Nat)) → Br a (∃ (h : (2 : Int) ≠ (0
  : Int)), ∀ (a : Bool), a = (a_1.tmod (2 : Int) == (1 : Int)) → Br a (post (IntKind.u64.wrap (a_1 + (1 : Int)), ())) (post (a_1, ()))) (post (a_1, ())))
theorem Lx_conv_near (a : Nat) (h : WNear a) : Fx_conv_near  a (fun r => r = nearR a) := by
  have hw : W64 a := by unfold WNear two63 at h; unfold W64; omega
  have hn : isN a = false := by
    have := (small_sgn (r := a) (by unfold WNear two63 at h; omega)).2.1
    unfold isN; rw [this, decide_eq_false_iff_not]; unfold WNear two63 at h; unfold infR; omega
  refine ⟨⟨hw, hn⟩, ?_⟩
  intro n hn2
  have hn2 := floor_int h hn2
  subst hn2
  intro d hd
  have hd : ∀ z, Ieee.double.order d z = Ieee.double.order (subQ a (floorF a)) z := sub_congr_order hd
  obtain ⟨_, r1', r2'⟩ := whole_rng h
  have hwp : IntKind.u64.wrap (wholeI (floorF a) + 1) = wholeI (floorF a) + 1 := wu1 ⟨by omega, by omega⟩
  have tm : (wholeI (floorF a)).tmod 2 = wholeI (floorF a) % 2 := Int.tmod_eq_emod_of_nonneg r1'
  rintro _ rfl
  refine Br.intro (fun e => ?_) fun e => ?_
  · rw [show Go.FloatKind.f64.format.order d 4602678819172646912 = _ from hd _] at e
    exact congrArg r1 (by rw [hwp]; unfold nearI; rw [if_pos (by rw [show fcmp .gtr (Ieee.double.order (subQ a (floorF a)) halfR) = true from e]; rfl)])
  · rw [show Go.FloatKind.f64.format.order d 4602678819172646912 = _ from hd _] at e
    rintro _ rfl
    refine Br.intro (fun f => ?_) fun f => ?_
    · rw [show Go.FloatKind.f64.format.order d 4602678819172646912 = _ from hd _] at f
      refine ⟨by decide, ?_⟩
      rintro _ rfl
      refine Br.intro (fun g => ?_) fun g => ?_
      · rw [tm] at g
        exact congrArg r1 (by rw [hwp]; unfold nearI; rw [if_pos (by rw [show fcmp .eql (Ieee.double.order (subQ a (floorF a)) halfR) = true from f, g, Bool.true_and, Bool.or_true])])
      · rw [tm] at g
        exact congrArg r1 (by unfold nearI; rw [if_neg (by rw [show fcmp .gtr (Ieee.double.order (subQ a (floorF a)) halfR) = false from e, g, Bool.and_false]; decide)])
    · rw [show Go.FloatKind.f64.format.order d 4602678819172646912 = _ from hd _] at f
      exact congrArg r1 (by unfold nearI; rw [if_neg (by rw [show fcmp .gtr (Ieee.double.order (subQ a (floorF a)) halfR) = false from e, show fcmp .eql (Ieee.double.order (subQ a (floorF a)) halfR) = false from f, Bool.false_and]; decide)])
def Fx_conv_Round := fun (a : Nat) (post : Int × Bool × Unit → Prop) => ∃ (h : W64 a), ∀ (a_1 : Bool), a_1 = fcmp Go.BinOp.lss (Go.FloatKind.f64.format.order (absR a).fst
  (4890909195324358656 : Nat)) → Br a_1 (∃ (h : WNear (absR a).fst), ∀ (a_2 : Bool), a_2 = fcmp Go.BinOp.lss (Go.FloatKind.f64.format.order a (0 : Nat)) → Br a_2 (post
  (IntKind.i64.wrap ((0 : Int) - IntKind.i64.wrap (nearR (absR a).fst).fst), Bool.true, ())) (post (IntKind.i64.wrap (nearR (absR a).fst).fst, Bool.true, ()))) (∀ (a_2 : Bool), a_2
  = fcmp Go.BinOp.eql (Go.FloatKind.f64.format.order a (14114281232179134464 : Nat)) → Br a_2 (post ((-9223372036854775808 : Int), Bool.true, ())) (post ((0 : Int), Bool.false,
  ())))
theorem Lx_conv_Round (a : Nat) (h : W64 a) : Fx_conv_Round  a (fun r => r = roundR a) := by
  refine ⟨h, ?_⟩
  rintro _ rfl
  refine Br.intro (fun e => ?_) fun e => ?_
  · have e : fcmp .lss (Ieee.double.order (rungOf a) two63) = true := e
    rw [lss_rung] at e
    have e := of_decide_eq_true e
    have hn : isN a = false := by unfold isN; rw [decide_eq_false_iff_not]; unfold two63 at e; unfold infR; omega
    refine ⟨e, ?_⟩
    rintro _ rfl
    refine Br.intro (fun f => ?_) fun f => ?_
    · rw [show fcmp .lss (Go.FloatKind.f64.format.order a 0) = _ from lss_nought hn] at f
      unfold roundR roundI; rw [if_pos e, if_pos f]; rfl
    · rw [show fcmp .lss (Go.FloatKind.f64.format.order a 0) = _ from lss_nought hn] at f
      unfold roundR roundI; rw [if_pos e, if_neg (by rw [f]; decide)]; rfl
  · have e : fcmp .lss (Ieee.double.order (rungOf a) two63) = false := e
    rw [lss_rung] at e
    have e := of_decide_eq_false e
    rintro _ rfl
    refine Br.intro (fun f => ?_) fun f => ?_
    · rw [show fcmp .eql (Go.FloatKind.f64.format.order a 14114281232179134464) = _ from eql_min h] at f
      unfold roundR roundI; rw [if_neg e, if_pos (show a = two63 + 9223372036854775808 from of_decide_eq_true f)]
    · rw [show fcmp .eql (Go.FloatKind.f64.format.order a 14114281232179134464) = _ from eql_min h] at f
      unfold roundR roundI; rw [if_neg e, if_neg (show ¬ a = two63 + 9223372036854775808 from of_decide_eq_false f)]
end Go.Lift

set_option linter.unusedVariables false
set_option linter.unusedSimpArgs false
namespace Go.Lift
open Go.Proofs
theorem Rbh_math_archFloor : Rbq_math_archFloor.holds Tryz.prog RbG 183 := by
  refine ext_floor (fn := Tryz.f183) Tryz.func183 (by decide) rfl rfl (by kernel_rfl)
def Rbx_math_Floor : Cx := ⟨tabOf Rbtab, conOf [(183, Rbq_math_archFloor)], RbG⟩
theorem Rbx_math_Floor_ok : CxOk Tryz.prog Rbx_math_Floor := ⟨tabB_sound Rbtab_ok, conOf_sound ⟨Rbh_math_archFloor, trivial⟩⟩
theorem Rbat_math_Floor : FnAt Tryz.prog 172 Tryz.f172.ntmps Tryz.f172.results.toList (Tryz.f172.body.getD .skip) := ⟨Tryz.f172, Tryz.func172, rfl, rfl, by simp, by decide⟩
theorem Rbeq_math_Floor (a : Nat) (post : Nat × Unit → Prop) : fnEval Rbx_math_Floor nHn Tryz.f172.ntmps Tryz.f172.results.toList (Tryz.f172.body.getD .skip) [.flt .f64] [.snap (.flt .f64)] (a, ()) post = Fx_math_Floor  a post := by kernel_rfl
theorem Rbh_math_Floor : Rbq_math_Floor.holds Tryz.prog RbG 172 :=
  detP Rbx_math_Floor_ok Rbmixed nHn Rbat_math_Floor (F := fun x post => Fx_math_Floor  x.1 post) (fun x post => Rbeq_math_Floor x.1 post) fun x h _ => Lx_math_Floor  x.1 h
def Rbx_conv_near : Cx := ⟨tabOf Rbtab, conOf [(172, Rbq_math_Floor)], RbG⟩
theorem Rbx_conv_near_ok : CxOk Tryz.prog Rbx_conv_near := ⟨tabB_sound Rbtab_ok, conOf_sound ⟨Rbh_math_Floor, trivial⟩⟩
theorem Rbat_conv_near : FnAt Tryz.prog 152 Tryz.f152.ntmps Tryz.f152.results.toList (Tryz.f152.body.getD .skip) := ⟨Tryz.f152, Tryz.func152, rfl, rfl, by simp, by decide⟩
theorem Rbeq_conv_near (a : Nat) (post : Int × Unit → Prop) : fnEval Rbx_conv_near nHn Tryz.f152.ntmps Tryz.f152.results.toList (Tryz.f152.body.getD .skip) [.flt .f64] [.snap (.int .u64)] (a, ()) post = Fx_conv_near  a post := by kernel_rfl
theorem Rbh_conv_near : Rbq_conv_near.holds Tryz.prog RbG 152 :=
  detP Rbx_conv_near_ok Rbmixed nHn Rbat_conv_near (F := fun x post => Fx_conv_near  x.1 post) (fun x post => Rbeq_conv_near x.1 post) fun x h _ => Lx_conv_near  x.1 h
def Rbx_conv_Round : Cx := ⟨tabOf Rbtab, conOf [(151, Rbq_math_Abs), (152, Rbq_conv_near)], RbG⟩
theorem Rbx_conv_Round_ok : CxOk Tryz.prog Rbx_conv_Round := ⟨tabB_sound Rbtab_ok, conOf_sound ⟨Rbh_math_Abs, Rbh_conv_near, trivial⟩⟩
theorem Rbat_conv_Round : FnAt Tryz.prog 126 Tryz.f126.ntmps Tryz.f126.results.toList (Tryz.f126.body.getD .skip) := ⟨Tryz.f126, Tryz.func126, rfl, rfl, by simp, by decide⟩
theorem Rbeq_conv_Round (a : Nat) (post : Int × Bool × Unit → Prop) : fnEval Rbx_conv_Round nHn Tryz.f126.ntmps Tryz.f126.results.toList (Tryz.f126.body.getD .skip) [.flt .f64] [.snap (.int .i64), .snap .bool] (a, ()) post = Fx_conv_Round  a post := by kernel_rfl
theorem Rbh_conv_Round : Rbq_conv_Round.holds Tryz.prog RbG 126 :=
  detP Rbx_conv_Round_ok Rbmixed nHn Rbat_conv_Round (F := fun x post => Fx_conv_Round  x.1 post) (fun x post => Rbeq_conv_Round x.1 post) fun x h _ => Lx_conv_Round  x.1 h
end Go.Lift

set_option linter.unusedVariables false
set_option linter.unusedSimpArgs false
namespace Go.Lift
open Go.Proofs
def Rbx_geom_ratio : Cx := ⟨tabOf Rbtab, conOf [], RbG⟩
theorem Rbx_geom_ratio_ok : CxOk Tryz.prog Rbx_geom_ratio := ⟨tabB_sound Rbtab_ok, fun f c h => by cases h⟩
theorem Rbat_geom_ratio : FnAt Tryz.prog 129 Tryz.f129.ntmps Tryz.f129.results.toList (Tryz.f129.body.getD .skip) := ⟨Tryz.f129, Tryz.func129, rfl, rfl, by simp, by decide⟩
theorem Rbeq_geom_ratio (a : Int) (b : Int) (post : Nat × Unit → Prop) : fnEval Rbx_geom_ratio nHn Tryz.f129.ntmps Tryz.f129.results.toList (Tryz.f129.body.getD .skip) [.int .i64, .int .i64] [.snap (.flt .f64)] (a, b, ()) post = Fx_geom_ratio  a b post := by kernel_rfl
theorem Rbh_geom_ratio : Rbq_geom_ratio.holds Tryz.prog RbG 129 :=
  detP Rbx_geom_ratio_ok Rbmixed nHn Rbat_geom_ratio (F := fun x post => Fx_geom_ratio  x.1 x.2.1 post) (fun x post => Rbeq_geom_ratio x.1 x.2.1 post) fun x h _ => Lx_geom_ratio  x.1 x.2.1 h
def Rbx_geom_point : Cx := ⟨tabOf Rbtab, conOf [(88, Rbq_bits_Canon), (153, Rbq_vec_Unit)], RbG⟩
theorem Rbx_geom_point_ok : CxOk Tryz.prog Rbx_geom_point := ⟨tabB_sound Rbtab_ok, conOf_sound ⟨Rbh_bits_Canon, Rbh_vec_Unit, trivial⟩⟩
theorem Rbat_geom_point : FnAt Tryz.prog 128 Tryz.f128.ntmps Tryz.f128.results.toList (Tryz.f128.body.getD .skip) := ⟨Tryz.f128, Tryz.func128, rfl, rfl, by simp, by decide⟩
theorem Rbeq_geom_point (f : Int) (s : Nat) (t : Nat) (post : (Nat × Nat × Nat) × Unit → Prop) : fnEval Rbx_geom_point Rbhn_geom_point Tryz.f128.ntmps Tryz.f128.results.toList (Tryz.f128.body.getD .skip) [.int .i64, .flt .f64, .flt .f64] [.snap kVec] (f, s, t, ()) post = Fx_geom_point 130 169 f s t post := by kernel_rfl
theorem Rbh_geom_point : Rbq_geom_point.holds Tryz.prog RbG 128 :=
  detP Rbx_geom_point_ok Rbmixed Rbhn_geom_point Rbat_geom_point (F := fun x post => Fx_geom_point 130 169 x.1 x.2.1 x.2.2.1 post) (fun x post => Rbeq_geom_point x.1 x.2.1 x.2.2.1 post) fun x h _ => Lx_geom_point 130 169 x.1 x.2.1 x.2.2.1 h
def Rbx_geom_Corner : Cx := ⟨tabOf Rbtab, conOf [(58, Rbq_cube_Cells), (129, Rbq_geom_ratio), (128, Rbq_geom_point)], RbG⟩
theorem Rbx_geom_Corner_ok : CxOk Tryz.prog Rbx_geom_Corner := ⟨tabB_sound Rbtab_ok, conOf_sound ⟨Rbh_cube_Cells, Rbh_geom_ratio, Rbh_geom_point, trivial⟩⟩
theorem Rbat_geom_Corner : FnAt Tryz.prog 127 Tryz.f127.ntmps Tryz.f127.results.toList (Tryz.f127.body.getD .skip) := ⟨Tryz.f127, Tryz.func127, rfl, rfl, by simp, by decide⟩
theorem Rbeq_geom_Corner (n : Int) (f : Int) (i : Int) (j : Int) (post : (Nat × Nat × Nat) × Bool × Unit → Prop) : fnEval Rbx_geom_Corner nHn Tryz.f127.ntmps Tryz.f127.results.toList (Tryz.f127.body.getD .skip) [.int .i64, .int .i64, .int .i64, .int .i64] [.snap kVec, .snap .bool] (n, f, i, j, ()) post = Fx_geom_Corner  n f i j post := by kernel_rfl
theorem Rbh_geom_Corner : Rbq_geom_Corner.holds Tryz.prog RbG 127 :=
  detP Rbx_geom_Corner_ok Rbmixed nHn Rbat_geom_Corner (F := fun x post => Fx_geom_Corner  x.1 x.2.1 x.2.2.1 x.2.2.2.1 post) (fun x post => Rbeq_geom_Corner x.1 x.2.1 x.2.2.1 x.2.2.2.1 post) fun x h _ => Lx_geom_Corner  x.1 x.2.1 x.2.2.1 x.2.2.2.1 h
def Rbx_geom_corners : Cx := ⟨tabOf Rbtab, conOf [(79, Rbq_cube_Place), (127, Rbq_geom_Corner)], RbG⟩
theorem Rbx_geom_corners_ok : CxOk Tryz.prog Rbx_geom_corners := ⟨tabB_sound Rbtab_ok, conOf_sound ⟨Rbh_cube_Place, Rbh_geom_Corner, trivial⟩⟩
theorem Rbat_geom_corners : FnAt Tryz.prog 99 Tryz.f99.ntmps Tryz.f99.results.toList (Tryz.f99.body.getD .skip) := ⟨Tryz.f99, Tryz.func99, rfl, rfl, by simp, by decide⟩
theorem Rbeq_geom_corners (n : Int) (c : Int) (post : (List (Nat × Nat × Nat)) × Bool × Unit → Prop) : fnEval Rbx_geom_corners Rbhn_geom_corners Tryz.f99.ntmps Tryz.f99.results.toList (Tryz.f99.body.getD .skip) [.int .i64, .int .i64] [.snap (.arr 4 kVec), .snap .bool] (n, c, ()) post = Fx_geom_corners  n c post := by kernel_rfl
theorem Rbh_geom_corners : Rbq_geom_corners.holds Tryz.prog RbG 99 :=
  detP Rbx_geom_corners_ok Rbmixed Rbhn_geom_corners Rbat_geom_corners (F := fun x post => Fx_geom_corners  x.1 x.2.1 post) (fun x post => Rbeq_geom_corners x.1 x.2.1 post) fun x h _ => Lx_geom_corners  x.1 x.2.1 h
def Rbx_geom_Area : Cx := ⟨tabOf Rbtab, conOf [(99, Rbq_geom_corners), (125, Rbq_vec_Minus), (124, Rbq_vec_Cross), (123, Rbq_vec_Length), (126, Rbq_conv_Round)], RbG⟩
theorem Rbx_geom_Area_ok : CxOk Tryz.prog Rbx_geom_Area := ⟨tabB_sound Rbtab_ok, conOf_sound ⟨Rbh_geom_corners, Rbh_vec_Minus, Rbh_vec_Cross, Rbh_vec_Length, Rbh_conv_Round, trivial⟩⟩
theorem Rbat_geom_Area : FnAt Tryz.prog 98 Tryz.f98.ntmps Tryz.f98.results.toList (Tryz.f98.body.getD .skip) := ⟨Tryz.f98, Tryz.func98, rfl, rfl, by simp, by decide⟩
theorem Rbeq_geom_Area (n : Int) (c : Int) (post : Int × Unit → Prop) : fnEval Rbx_geom_Area nHn Tryz.f98.ntmps Tryz.f98.results.toList (Tryz.f98.body.getD .skip) [.int .i64, .int .i64] [.snap (.int .i64)] (n, c, ()) post = Fx_geom_Area  n c post := by kernel_rfl
theorem Rbh_geom_Area : Rbq_geom_Area.holds Tryz.prog RbG 98 :=
  detP Rbx_geom_Area_ok Rbmixed nHn Rbat_geom_Area (F := fun x post => Fx_geom_Area  x.1 x.2.1 post) (fun x post => Rbeq_geom_Area x.1 x.2.1 post) fun x h _ => Lx_geom_Area  x.1 x.2.1 h
end Go.Lift

set_option linter.unusedVariables false
set_option linter.unusedSimpArgs false
namespace Go.Lift
open Go.Proofs
def Rbx_geom_Middle : Cx := ⟨tabOf Rbtab, conOf [(79, Rbq_cube_Place), (129, Rbq_geom_ratio), (128, Rbq_geom_point)], RbG⟩
theorem Rbx_geom_Middle_ok : CxOk Tryz.prog Rbx_geom_Middle := ⟨tabB_sound Rbtab_ok, conOf_sound ⟨Rbh_cube_Place, Rbh_geom_ratio, Rbh_geom_point, trivial⟩⟩
theorem Rbat_geom_Middle : FnAt Tryz.prog 101 Tryz.f101.ntmps Tryz.f101.results.toList (Tryz.f101.body.getD .skip) := ⟨Tryz.f101, Tryz.func101, rfl, rfl, by simp, by decide⟩
theorem Rbeq_geom_Middle (n : Int) (c : Int) (post : (Nat × Nat × Nat) × Bool × Unit → Prop) : fnEval Rbx_geom_Middle nHn Tryz.f101.ntmps Tryz.f101.results.toList (Tryz.f101.body.getD .skip) [.int .i64, .int .i64] [.snap kVec, .snap .bool] (n, c, ()) post = Fx_geom_Middle  n c post := by kernel_rfl
theorem Rbh_geom_Middle : Rbq_geom_Middle.holds Tryz.prog RbG 101 :=
  nam_of_det (detP Rbx_geom_Middle_ok Rbmixed nHn Rbat_geom_Middle (F := fun x post => Fx_geom_Middle  x.1 x.2.1 post) (fun x post => Rbeq_geom_Middle x.1 x.2.1 post) fun x h _ => Lx_geom_Middle  x.1 x.2.1 h)
def Rbx_geom_Length : Cx := ⟨tabOf Rbtab, conOf [(99, Rbq_geom_corners), (100, Rbq_vec_Gap)], RbG⟩
theorem Rbx_geom_Length_ok : CxOk Tryz.prog Rbx_geom_Length := ⟨tabB_sound Rbtab_ok, conOf_sound ⟨Rbh_geom_corners, Rbh_vec_Gap, trivial⟩⟩
theorem Rbat_geom_Length : FnAt Tryz.prog 61 Tryz.f61.ntmps Tryz.f61.results.toList (Tryz.f61.body.getD .skip) := ⟨Tryz.f61, Tryz.func61, rfl, rfl, by simp, by decide⟩
theorem Rbeq_geom_Length (n : Int) (c : Int) (o : Int) (post : Nat × Unit → Prop) : fnEval Rbx_geom_Length Rbhn_geom_Length Tryz.f61.ntmps Tryz.f61.results.toList (Tryz.f61.body.getD .skip) [.int .i64, .int .i64, .int .i64] [.snap (.flt .f64)] (n, c, o, ()) post = Fx_geom_Length  n c o post := by kernel_rfl
theorem Rbh_geom_Length : Rbq_geom_Length.holds Tryz.prog RbG 61 :=
  nam_of_det (detP Rbx_geom_Length_ok Rbmixed Rbhn_geom_Length Rbat_geom_Length (F := fun x post => Fx_geom_Length  x.1 x.2.1 x.2.2.1 post) (fun x post => Rbeq_geom_Length x.1 x.2.1 x.2.2.1 post) fun x h _ => Lx_geom_Length  x.1 x.2.1 x.2.2.1 h)
def Rbx_geom_Gap : Cx := ⟨tabOf Rbtab, conOf [(35, Rbq_cube_Beside), (101, Rbq_geom_Middle), (100, Rbq_vec_Gap)], RbG⟩
theorem Rbx_geom_Gap_ok : CxOk Tryz.prog Rbx_geom_Gap := ⟨tabB_sound Rbtab_ok, conOf_sound ⟨Rbh_cube_Beside, Rbh_geom_Middle, Rbh_vec_Gap, trivial⟩⟩
theorem Rbat_geom_Gap : FnAt Tryz.prog 62 Tryz.f62.ntmps Tryz.f62.results.toList (Tryz.f62.body.getD .skip) := ⟨Tryz.f62, Tryz.func62, rfl, rfl, by simp, by decide⟩
theorem Rbeq_geom_Gap (n : Int) (c : Int) (o : Int) (post : Nat × Unit → Prop) : fnEval Rbx_geom_Gap Rbhn_geom_Gap Tryz.f62.ntmps Tryz.f62.results.toList (Tryz.f62.body.getD .skip) [.int .i64, .int .i64, .int .i64] [.snap (.flt .f64)] (n, c, o, ()) post = Fx_geom_Gap  n c o post := by kernel_rfl
theorem Rbh_geom_Gap : Rbq_geom_Gap.holds Tryz.prog RbG 62 :=
  nam_of_det (detP Rbx_geom_Gap_ok Rbmixed Rbhn_geom_Gap Rbat_geom_Gap (F := fun x post => Fx_geom_Gap  x.1 x.2.1 x.2.2.1 post) (fun x post => Rbeq_geom_Gap x.1 x.2.1 x.2.2.1 post) fun x h _ => Lx_geom_Gap  x.1 x.2.1 x.2.2.1 h)
end Go.Lift

set_option linter.unusedVariables false
set_option linter.unusedSimpArgs false
namespace Go.Lift
open Go.Proofs
def Rbx_grid_New : Cx := ⟨tabOf Rbtab, conOf [(58, Rbq_cube_Cells), (35, Rbq_cube_Beside), (98, Rbq_geom_Area), (61, Rbq_geom_Length), (62, Rbq_geom_Gap)], RbG⟩
theorem Rbx_grid_New_ok : CxOk Tryz.prog Rbx_grid_New := ⟨tabB_sound Rbtab_ok, conOf_sound ⟨Rbh_cube_Cells, Rbh_cube_Beside, Rbh_geom_Area, Rbh_geom_Length, Rbh_geom_Gap, trivial⟩⟩
theorem Rbat_grid_New : FnAt Tryz.prog 24 Tryz.f24.ntmps Tryz.f24.results.toList (Tryz.f24.body.getD .skip) := ⟨Tryz.f24, Tryz.func24, rfl, rfl, by simp, by decide⟩
theorem Rbeq_grid_New (n : Int) (post : (Option (Int × (List (Int × Int × Int × Int)) × (List ((Int × Int) × Int)) × (List (List Int)) × (List Int) × (List Nat) × List Nat)) × Int × Unit → Prop) : fnEvalI Rbx_grid_New Rbhn_grid_New (callLvl Rbx_grid_New Rbfns_grid 6) Tryz.f24.ntmps Tryz.f24.results.toList (Tryz.f24.body.getD .skip) [.int .i64] [.snap (.ptr kGrid), .snap (.int .i64)] (n, ()) post = Fx_grid_New 87 88 2 91 59 60 n post := by kernel_rfl
theorem Rbh_grid_New : Rbq_grid_New.holds Tryz.prog RbG 24 :=
  detPI Rbx_grid_New_ok Rbmixed Rbhn_grid_New (callLvl_ok Rbx_grid_New_ok Rbmixed Rbfns_grid_ok 6) Rbat_grid_New (F := fun x post => Fx_grid_New 87 88 2 91 59 60 x.1 post) (fun x post => Rbeq_grid_New x.1 post) fun x h _ => Lx_grid_New 87 88 2 91 59 60 x.1 h
end Go.Lift

set_option linter.unusedVariables false
set_option linter.unusedSimpArgs false
namespace Go.Lift
def Fx_ref09_New := fun (ty3 ty95 : Nat) (n : Int) (post : Option (Int × List (Int × Int × Int × Int) × List Int) × Int × Unit → Prop) => ∃ (h : I64 n), ∀ (a : Bool), a = ((cellsR
  n).fst == (0 : Int)) → Br a (post (Option.none, (10 : Int), ())) (∃ (h : (0 : Int) ≤ IntKind.i64.wrap ((4 : Int) * (cellsR n).fst) ∧ IntKind.i64.wrap ((4 : Int) * (cellsR n).fst)
  ≤ IntKind.i64.wrap ((4 : Int) * (cellsR n).fst) ∧ IntKind.i64.wrap ((4 : Int) * (cellsR n).fst) * (↑(8 : Nat) : Int) ≤ (281474976710656 : Int)), HIs [HObj.row Md.rw ty3 (K.int
  IntKind.i64) (List.replicate (IntKind.i64.wrap ((4 : Int) * (cellsR n).fst)).toNat (0 : Int)), HObj.box Md.rw ty95 [SV.val (Go.Value.int IntKind.i64 n), SV.junk, SV.osl (0 : Nat)
  (0 : Nat) (IntKind.i64.wrap ((4 : Int) * (cellsR n).fst)).toNat]] [HObj.row Md.rw ty3 (K.int IntKind.i64) (List.replicate (IntKind.i64.wrap ((4 : Int) * (cellsR n).fst)).toNat (0
  : Int)), HObj.box Md.rw ty95 [SV.val (Go.Value.int IntKind.i64 n), SV.junk, SV.osl (0 : Nat) (0 : Nat) (IntKind.i64.wrap ((4 : Int) * (cellsR n).fst)).toNat]] ∧ ∃ (I : Int × List
  (Int × Int × Int × Int) × Unit → List Int × Unit → Prop), ∃ (μ : Int × List (Int × Int × Int × Int) × Unit → List Int × Unit → Nat), I ((0 : Int), [], ()) (List.replicate
  (IntKind.i64.wrap ((4 : Int) * (cellsR n).fst)).toNat (0 : Int), ()) ∧ ∀ (x : Int × List (Int × Int × Int × Int) × Unit) (y : List Int × Unit), I x y → ∀ (a : Bool), a = decide
  (x.fst < (cellsR n).fst) → Br a (((0 : Nat) = (0 : Nat) ∧ x.snd.fst.length = x.snd.fst.length) ∧ HIs [HObj.row Md.rw ty3 (K.int IntKind.i64) y.fst, HObj.box Md.rw ty95 [SV.val
  (Go.Value.int IntKind.i64 n), SV.junk, SV.osl (0 : Nat) (0 : Nat) (IntKind.i64.wrap ((4 : Int) * (cellsR n).fst)).toNat], HObj.dead] [HObj.row Md.rw ty3 (K.int IntKind.i64) y.fst,
  HObj.box Md.rw ty95 [SV.val (Go.Value.int IntKind.i64 n), SV.junk, SV.osl (0 : Nat) (0 : Nat) (IntKind.i64.wrap ((4 : Int) * (cellsR n).fst)).toNat], HObj.dead] ∧ ∃ (I_1 : Int ×
  List (Int × Int × Int × Int) × Unit → List Int × Unit → Prop), ∃ (μ_1 : Int × List (Int × Int × Int × Int) × Unit → List Int × Unit → Nat), I_1 ((0 : Int), x.snd.fst, ()) (y.fst,
  ()) ∧ ∀ (x_3 : Int × List (Int × Int × Int × Int) × Unit) (y_1 : List Int × Unit), I_1 x_3 y_1 → ∀ (a : Bool), a = decide (x_3.fst < (4 : Int)) → Br a (∃ (h : III n x.fst
  x_3.fst), ∀ (a : Int × Int × Unit), a = besideR n x.fst x_3.fst → ∀ (a_1 : Bool), a_1 = decide (a.fst > x.fst) → Br a_1 (∃ (h : (0 : Int) ≤ IntKind.i64.wrap (IntKind.i64.wrap ((4
  : Int) * x.fst) + x_3.fst) ∧ IntKind.i64.wrap (IntKind.i64.wrap ((4 : Int) * x.fst) + x_3.fst) < (↑(IntKind.i64.wrap ((4 : Int) * (cellsR n).fst)).toNat : Int)), ∃ (h : (0 : Int)
  ≤ IntKind.i64.wrap (IntKind.i64.wrap ((4 : Int) * a.fst) + a.snd.fst) ∧ IntKind.i64.wrap (IntKind.i64.wrap ((4 : Int) * a.fst) + a.snd.fst) < (↑(IntKind.i64.wrap ((4 : Int) *
  (cellsR n).fst)).toNat : Int)), ∃ (h : x_3.snd.fst.length = x_3.snd.fst.length ∧ (x_3.snd.fst.length + (1 : Nat)) * (32 : Nat) ≤ (140737488355328 : Nat)), ((0 : Nat) = (0 : Nat) ∧
  x_3.snd.fst.length + (1 : Nat) = (x_3.snd.fst ++ [(x.fst, x_3.fst, a.fst, a.snd.fst)]).length) ∧ HIs [HObj.row Md.rw ty3 (K.int IntKind.i64) ((y_1.fst.set ((0 : Nat) +
  (IntKind.i64.wrap (IntKind.i64.wrap ((4 : Int) * x.fst) + x_3.fst)).toNat) (↑x_3.snd.fst.length : Int)).set ((0 : Nat) + (IntKind.i64.wrap (IntKind.i64.wrap ((4 : Int) * a.fst) +
  a.snd.fst)).toNat) (↑x_3.snd.fst.length : Int)), HObj.box Md.rw ty95 [SV.val (Go.Value.int IntKind.i64 n), SV.junk, SV.osl (0 : Nat) (0 : Nat) (IntKind.i64.wrap ((4 : Int) *
  (cellsR n).fst)).toNat], HObj.dead] [HObj.row Md.rw ty3 (K.int IntKind.i64) ((y_1.fst.set ((0 : Nat) + (IntKind.i64.wrap (IntKind.i64.wrap ((4 : Int) * x.fst) + x_3.fst)).toNat)
  (↑x_3.snd.fst.length : Int)).set ((0 : Nat) + (IntKind.i64.wrap (IntKind.i64.wrap ((4 : Int) * a.fst) + a.snd.fst)).toNat) (↑x_3.snd.fst.length : Int)), HObj.box Md.rw ty95
  [SV.val (Go.Value.int IntKind.i64 n), SV.junk, SV.osl (0 : Nat) (0 : Nat) (IntKind.i64.wrap ((4 : Int) * (cellsR n).fst)).toNat], HObj.dead] ∧ I_1 (IntKind.i64.wrap (x_3.fst + (1
  : Int)), x_3.snd.fst ++ [(x.fst, x_3.fst, a.fst, a.snd.fst)], ()) ((y_1.fst.set ((0 : Nat) + (IntKind.i64.wrap (IntKind.i64.wrap ((4 : Int) * x.fst) + x_3.fst)).toNat)
  (↑x_3.snd.fst.length : Int)).set ((0 : Nat) + (IntKind.i64.wrap (IntKind.i64.wrap ((4 : Int) * a.fst) + a.snd.fst)).toNat) (↑x_3.snd.fst.length : Int), ()) ∧ μ_1 (IntKind.i64.wrap
  (x_3.fst + (1 : Int)), x_3.snd.fst ++ [(x.fst, x_3.fst, a.fst, a.snd.fst)], ()) ((y_1.fst.set ((0 : Nat) + (IntKind.i64.wrap (IntKind.i64.wrap ((4 : Int) * x.fst) +
  x_3.fst)).toNat) (↑x_3.snd.fst.length : Int)).set ((0 : Nat) + (IntKind.i64.wrap (IntKind.i64.wrap ((4 : Int) * a.fst) + a.snd.fst)).toNat) (↑x_3.snd.fst.length : Int), ()) < μ_1
  x_3 y_1) (((0 : Nat) = (0 : Nat) ∧ x_3.snd.fst.length = x_3.snd.fst.length) ∧ HIs [HObj.row Md.rw ty3 (K.int IntKind.i64) y_1.fst, HObj.box Md.rw ty95 [SV.val (Go.Value.int
  IntKind.i64 n), SV.junk, SV.osl (0 : Nat) (0 : Nat) (IntKind.i64.wrap ((4 : Int) * (cellsR n).fst)).toNat], HObj.dead] [HObj.row Md.rw ty3 (K.int IntKind.i64) y_1.fst, HObj.box
  Md.rw ty95 [SV.val (Go.Value.int IntKind.i64 n), SV.junk, SV.osl (0 : Nat) (0 : Nat) (IntKind.i64.wrap ((4 : Int) * (cellsR n).fst)).toNat], HObj.dead] ∧ I_1 (IntKind.i64.wrap
  (x_3.fst + (1 : Int)), x_3.snd.fst, ()) (y_1.fst, ()) ∧ μ_1 (IntKind.i64.wrap (x_3.fst + (1 : Int)), x_3.snd.fst, ()) (y_1.fst, ()) < μ_1 x_3 y_1)) (((0 : Nat) = (0 : Nat) ∧
  x_3.snd.fst.length = x_3.snd.fst.length) ∧ HIs [HObj.row Md.rw ty3 (K.int IntKind.i64) y_1.fst, HObj.box Md.rw ty95 [SV.val (Go.Value.int IntKind.i64 n), SV.junk, SV.osl (0 : Nat)
  (0 : Nat) (IntKind.i64.wrap ((4 : Int) * (cellsR n).fst)).toNat]] [HObj.row Md.rw ty3 (K.int IntKind.i64) y_1.fst, HObj.box Md.rw ty95 [SV.val (Go.Value.int IntKind.i64 n),
  SV.junk, SV.osl (0 : Nat) (0 : Nat) (IntKind.i64.wrap ((4 : Int) * (cellsR n).fst)).toNat]] ∧ I (IntKind.i64.wrap (x.fst + (1 : Int)), x_3.snd.fst, ()) (y_1.fst, ()) ∧ μ
  (IntKind.i64.wrap (x.fst + (1 : Int)), x_3.snd.fst, ()) (y_1.fst, ()) < μ x y)) (post (Option.some (n, List.take x.snd.fst.length (List.drop (0 : Nat) x.snd.fst), List.take
  (IntKind.i64.wrap ((4 : Int) * (cellsR n).fst)).toNat (List.drop (0 : Nat) y.fst)), (0 : Int), ())))
theorem Lx_ref09_New (ty0 ty1 : Nat) (n : Int) (h : I64 n) : Fx_ref09_New ty0 ty1 n (fun r => r = rnewR n) := by
  have cr := cells_rng n
  obtain ⟨N, hN⟩ : ∃ N, (cellsI n).toNat = N := ⟨_, rfl⟩
  have hc : cellsI n = (N : Int) := by omega
  have hc' : (cellsR n).fst = (N : Int) := hc
  have i6 : ∀ {z : Int}, 0 ≤ z → z ≤ 6144 → I64 z := fun {z} a b => ⟨by omega, by omega⟩
  have w4 : IntKind.i64.wrap ((4 : Int) * (N : Int)) = 4 * (N : Int) := wi ⟨by omega, by omega⟩
  unfold Fx_ref09_New
  rw [hc', w4]
  refine ⟨h, ?_⟩
  rintro _ rfl
  refine Br.intro (fun e => ?_) fun e => ?_
  · have e : (N : Int) = 0 := beq_iff_eq.1 e
    show _ = rnewR n
    unfold rnewR; rw [if_pos (by omega)]
  have e : ¬ (N : Int) = 0 := fun q => by rw [q] at e; cases e
  have hnew : rnewR n = (some (rnetG n), 0, ()) := by unfold rnewR; rw [if_neg (by omega)]
  refine ⟨⟨by omega, by omega, by omega⟩, rfl, fun x y => ∃ k : Nat, x.1 = k ∧ k ≤ N ∧ x.2.1 = (rnetN n k).1 ∧ y.1 = (rnetN n k).2, fun x _ => N - x.1.toNat, ⟨0, rfl, by omega, rfl, by show _ = List.replicate (4 * cellsI n).toNat 0; rw [hc]⟩, ?_⟩
  rintro ⟨_, _, ⟨⟩⟩ ⟨_, ⟨⟩⟩ ⟨k, rfl, hk, rfl, rfl⟩
  dsimp only
  rintro _ rfl
  refine Br.intro (fun e1 => ?_) fun e1 => ?_
  · have e1 : k < N := by have e1 : (k : Int) < N := of_decide_eq_true e1; omega
    have hp : placeOk n (k : Int) = true := place_nat (by omega)
    obtain ⟨lk, lk2⟩ := rnetN_len n k
    refine ⟨⟨rfl, rfl⟩, rfl, fun x y => ∃ j : Nat, x.1 = j ∧ j ≤ 4 ∧ x.2.1 = (raddN n k (rnetN n k) j).1 ∧ y.1 = (raddN n k (rnetN n k) j).2, fun x _ => 4 - x.1.toNat, ⟨0, rfl, by omega, rfl, rfl⟩, ?_⟩
    rintro ⟨_, _, ⟨⟩⟩ ⟨_, ⟨⟩⟩ ⟨j, rfl, hj, rfl, rfl⟩
    dsimp only
    obtain ⟨lj, lj2⟩ := raddN_len n k (rnetN n k) j
    rintro _ rfl
    refine Br.intro (fun e2 => ?_) fun e2 => ?_
    · have e2 : j < 4 := by have e2 : (j : Int) < 4 := of_decide_eq_true e2; omega
      have ok : besideOk n k j = true := besideOk_iff.2 ⟨hp, by omega, by omega⟩
      obtain ⟨b1, b2, b3, b4, b5⟩ := beside_back ok
      obtain ⟨d0, d1⟩ := place_cells b1
      refine ⟨⟨h, i6 (by omega) (by omega), i6 (by omega) (by omega)⟩, ?_⟩
      rintro _ rfl
      rw [wi_succ e2 (by omega)]
      have hst : raddN n k (rnetN n k) (j + 1) = raddE n k j (raddN n k (rnetN n k) j) := rfl
      rintro _ rfl
      refine Br.intro (fun g => ?_) fun g => ?_
      · have g : (besideI n k j).1 > k := of_decide_eq_true g
        have w1 : IntKind.i64.wrap (IntKind.i64.wrap (4 * (k : Int)) + j) = 4 * (k : Int) + j := by rw [wi (x := 4 * (k : Int)) ⟨by omega, by omega⟩, wi ⟨by omega, by omega⟩]
        have w2 : IntKind.i64.wrap (IntKind.i64.wrap (4 * (besideR n k j).1) + (besideR n k j).2.1) = 4 * (besideI n k j).1 + (besideI n k j).2 := by
          show IntKind.i64.wrap (IntKind.i64.wrap (4 * (besideI n k j).1) + (besideI n k j).2) = _
          rw [wi (x := 4 * (besideI n k j).1) ⟨by omega, by omega⟩, wi ⟨by omega, by omega⟩]
        rw [w1, w2]
        have hE : raddE n k j (raddN n k (rnetN n k) j) = ((raddN n k (rnetN n k) j).1 ++ [((k : Int), (j : Int), (besideI n k j).1, (besideI n k j).2)], ((raddN n k (rnetN n k) j).2.set (4 * (k : Int) + j).toNat (raddN n k (rnetN n k) j).1.length).set (4 * (besideI n k j).1 + (besideI n k j).2).toNat (raddN n k (rnetN n k) j).1.length) := if_pos g
        refine ⟨⟨by omega, by omega⟩, ⟨by omega, by omega⟩, ⟨rfl, by omega⟩, ⟨rfl, by rw [List.length_append]; rfl⟩, rfl, ⟨j + 1, rfl, by omega, ?_, ?_⟩, by omega⟩
        · rw [hst, hE]; rfl
        · rw [hst, hE, Nat.zero_add, Nat.zero_add]
      · have g : ¬ (besideI n k j).1 > k := of_decide_eq_false g
        have hE : raddE n k j (raddN n k (rnetN n k) j) = raddN n k (rnetN n k) j := if_neg g
        exact ⟨⟨rfl, rfl⟩, rfl, ⟨j + 1, rfl, by omega, by rw [hst, hE], by rw [hst, hE]⟩, by omega⟩
    · have e2 : j = 4 := by have e2 : ¬ (j : Int) < 4 := of_decide_eq_false e2; omega
      subst e2
      rw [wi_succ e1 (by omega)]
      exact ⟨⟨rfl, rfl⟩, rfl, ⟨k + 1, rfl, by omega, rfl, rfl⟩, by omega⟩
  have e1 : k = N := by have e1 : ¬ (k : Int) < N := of_decide_eq_false e1; omega
  subst e1
  obtain ⟨_, l2⟩ := rnetN_len n k
  rw [hnew]
  unfold rnetG rnetE
  rw [hN, List.drop_zero, List.drop_zero, List.take_length, List.take_of_length_le (by rw [l2, hc]; exact Nat.le_refl _)]
def Fx_ref09_Grid_Side_0 := fun (post : Int × Unit → Prop) => post ((0 : Int), ())
theorem Lx_ref09_Grid_Side_0  (w : KS.wf [.ptr kRGrid] (none, ())) : Fx_ref09_Grid_Side_0   (fun r => r = rSideR none) := by
  exact rfl
def Fx_ref09_Grid_Side_1 := fun (g : Int × List (Int × Int × Int × Int) × List Int) (post : Int × Unit → Prop) => ∃ (h : Option.some g ≠ Option.none), post (g.fst, ())
theorem Lx_ref09_Grid_Side_1 (g : Int × (List (Int × Int × Int × Int)) × List Int) (w : KS.wf [.ptr kRGrid] ((some g), ())) : Fx_ref09_Grid_Side_1  g (fun r => r = rSideR (some g)) := by
  exact ⟨by simp, rfl⟩
def Fx_ref09_Grid_Cells_0 := fun (post : Int × Unit → Prop) => ∃ (h : True), ∃ (h : I64 (rSideR Option.none).fst), post ((cellsR (rSideR Option.none).fst).fst, ())
theorem Lx_ref09_Grid_Cells_0  (h : RNetP none) (w : KS.wf [.ptr kRGrid] (none, ())) : Fx_ref09_Grid_Cells_0   (fun r => r = rCellsR none) := by
  exact ⟨trivial, ⟨by decide, by decide⟩, rfl⟩
def Fx_ref09_Grid_Cells_1 := fun (g : Int × List (Int × Int × Int × Int) × List Int) (post : Int × Unit → Prop) => ∃ (h : True), ∃ (h : I64 (rSideR (Option.some g)).fst), post
  ((cellsR (rSideR (Option.some g)).fst).fst, ())
theorem Lx_ref09_Grid_Cells_1 (g : Int × (List (Int × Int × Int × Int)) × List Int) (h : RNetP (some g)) (w : KS.wf [.ptr kRGrid] ((some g), ())) : Fx_ref09_Grid_Cells_1  g (fun r => r = rCellsR (some g)) := by
  rcases h with hg | ⟨n, gn, hg⟩
  · cases hg
  · obtain rfl := Option.some.inj hg
    obtain ⟨n1, n2⟩ := goodC_iff.1 gn
    exact ⟨trivial, ⟨by show _ ≤ n; omega, by show n < _; omega⟩, rfl⟩
def Fx_ref09_Grid_Edges_0 := fun (post : Int × Unit → Prop) => post ((0 : Int), ())
theorem Lx_ref09_Grid_Edges_0  (w : KS.wf [.ptr kRGrid] (none, ())) : Fx_ref09_Grid_Edges_0   (fun r => r = rEdgesR none) := by
  exact rfl
def Fx_ref09_Grid_Edges_1 := fun (g : Int × List (Int × Int × Int × Int) × List Int) (post : Int × Unit → Prop) => ∃ (h : Option.some g ≠ Option.none), post ((↑g.snd.fst.length :
  Int), ())
theorem Lx_ref09_Grid_Edges_1 (g : Int × (List (Int × Int × Int × Int)) × List Int) (w : KS.wf [.ptr kRGrid] ((some g), ())) : Fx_ref09_Grid_Edges_1  g (fun r => r = rEdgesR (some g)) := by
  exact ⟨by simp, rfl⟩
def Fx_ref09_Grid_Around_0 := fun (c o : Int) (post : Int × Int × Unit → Prop) => ∀ (a : Bool), a = decide (c < (0 : Int)) → Br a (post ((0 : Int), (0 : Int), ())) (∃ (h : RNetP
  Option.none), ∀ (a : Bool), a = decide (c ≥ (rCellsR Option.none).fst) → Br a (post ((0 : Int), (0 : Int), ())) (∀ (a : Bool), a = decide (o < (0 : Int)) → Br a (post ((0 : Int),
  (0 : Int), ())) (∀ (a : Bool), a = decide (o > (3 : Int)) → Br a (post ((0 : Int), (0 : Int), ())) (∃ (h : (Option.none : Option (Int × (List (Int × Int × Int × Int)) × List Int))
  ≠ Option.none), False))))
theorem Lx_ref09_Grid_Around_0 (c : Int) (o : Int) (h : WRNet none c o) (w : KS.wf [.ptr kRGrid, .int .i64, .int .i64] (none, c, o, ())) : Fx_ref09_Grid_Around_0  c o (fun r => r = rAroundR none c o) := by
  rintro _ rfl
  refine Br.intro (fun _ => rfl) fun e1 => ?_
  refine ⟨h.1, ?_⟩
  rintro _ rfl
  refine Br.intro (fun _ => rfl) fun e2 => ?_
  have e1 := of_decide_eq_false e1
  have e2 : ¬ c ≥ 0 := of_decide_eq_false e2
  omega
def Fx_ref09_Grid_Around_1 := fun (g : Int × List (Int × Int × Int × Int) × List Int) (c o : Int) (post : Int × Int × Unit → Prop) => ∀ (a : Bool), a = decide (c < (0 : Int)) → Br a
  (post ((0 : Int), (0 : Int), ())) (∃ (h : RNetP (Option.some g)), ∀ (a : Bool), a = decide (c ≥ (rCellsR (Option.some g)).fst) → Br a (post ((0 : Int), (0 : Int), ())) (∀ (a :
  Bool), a = decide (o < (0 : Int)) → Br a (post ((0 : Int), (0 : Int), ())) (∀ (a : Bool), a = decide (o > (3 : Int)) → Br a (post ((0 : Int), (0 : Int), ())) (∃ (h : Option.some g
  ≠ Option.none), ∃ (h : (0 : Int) ≤ IntKind.i64.wrap (IntKind.i64.wrap ((4 : Int) * c) + o) ∧ IntKind.i64.wrap (IntKind.i64.wrap ((4 : Int) * c) + o) < (↑g.snd.snd.length : Int)),
  ∃ (h : Option.some g ≠ Option.none), ∃ (h : (0 : Int) ≤ g.snd.snd.getD (IntKind.i64.wrap (IntKind.i64.wrap ((4 : Int) * c) + o)).toNat (0 : Int) ∧ g.snd.snd.getD (IntKind.i64.wrap
  (IntKind.i64.wrap ((4 : Int) * c) + o)).toNat (0 : Int) < (↑g.snd.fst.length : Int)), ∀ (a : Bool), a = ((g.snd.fst.getD (Int.toNat (g.snd.snd.getD (IntKind.i64.wrap
  (IntKind.i64.wrap ((4 : Int) * c) + o)).toNat (0 : Int))) ((K.int IntKind.i64).pair ((K.int IntKind.i64).pair ((K.int IntKind.i64).pair (K.int IntKind.i64)))).dflt).fst == c) → Br
  a (post (g.snd.snd.getD (IntKind.i64.wrap (IntKind.i64.wrap ((4 : Int) * c) + o)).toNat (0 : Int), (1 : Int), ())) (post (g.snd.snd.getD (IntKind.i64.wrap (IntKind.i64.wrap ((4 :
  Int) * c) + o)).toNat (0 : Int), (-1 : Int), ()))))))
theorem Lx_ref09_Grid_Around_1 (g : Int × (List (Int × Int × Int × Int)) × List Int) (c : Int) (o : Int) (h : WRNet (some g) c o) (w : KS.wf [.ptr kRGrid, .int .i64, .int .i64] ((some g), c, o, ())) : Fx_ref09_Grid_Around_1  g c o (fun r => r = rAroundR (some g) c o) := by
  obtain ⟨hg, hc, ho⟩ := h
  have hg' := hg
  obtain ⟨n, gn, hgn⟩ : ∃ n, goodC n = true ∧ g = rnetG n := by
    rcases hg with hg | ⟨n, gn, hg⟩
    · cases hg
    · exact ⟨n, gn, Option.some.inj hg⟩
  subst hgn
  have no : ¬ besideOk n c o = true → ((0 : Int), (0 : Int), ()) = rAroundR (some (rnetG n)) c o := fun q => by
    unfold rAroundR; rw [(around_bad q).2]
  rintro _ rfl
  refine Br.intro (fun e => no fun q => ?_) fun e1 => ?_
  · have e := of_decide_eq_true e
    have := (place_cells (besideOk_iff.1 q).1).1
    omega
  refine ⟨hg', ?_⟩
  rintro _ rfl
  refine Br.intro (fun e => no fun q => ?_) fun e2 => ?_
  · have e : c ≥ cellsI n := of_decide_eq_true e
    have := (place_cells (besideOk_iff.1 q).1).2
    omega
  rintro _ rfl
  refine Br.intro (fun e => no fun q => ?_) fun e3 => ?_
  · have e := of_decide_eq_true e
    have := (besideOk_iff.1 q).2.1
    omega
  rintro _ rfl
  refine Br.intro (fun e => no fun q => ?_) fun e4 => ?_
  · have e := of_decide_eq_true e
    have := (besideOk_iff.1 q).2.2
    omega
  have e1 := of_decide_eq_false e1
  have e2 : ¬ c ≥ cellsI n := of_decide_eq_false e2
  have e3 := of_decide_eq_false e3
  have e4 := of_decide_eq_false e4
  have hp : placeOk n c = true := by unfold placeOk; rw [decide_eq_true (p := 0 ≤ c) (by omega), decide_eq_true (p := c < cellsI n) (by omega)]; rfl
  have ok : besideOk n c o = true := besideOk_iff.2 ⟨hp, by omega, by omega⟩
  have cr := cells_rng n
  obtain ⟨k, hk, _, k2, _⟩ := net_side ok
  have he := (netE_both n).1
  have w1 : IntKind.i64.wrap (IntKind.i64.wrap (4 * c) + o) = 4 * c + o := by rw [wi (x := 4 * c) ⟨by omega, by omega⟩, wi ⟨by omega, by omega⟩]
  have l2 : (rnetE n).2.length = (4 * cellsI n).toNat := (rnetN_len n _).2
  have g1 : (rnetE n).2.getD (4 * c + o).toNat 0 = (k : Int) := by rw [List.getD_eq_getElem?_getD, k2]; rfl
  rw [w1]
  refine ⟨by simp, ⟨by omega, by show 4 * c + o < ((rnetE n).2.length : Int); omega⟩, by simp, ⟨by show 0 ≤ (rnetE n).2.getD (4 * c + o).toNat 0; omega, by show (rnetE n).2.getD (4 * c + o).toNat 0 < ((rnetE n).1.length : Int); rw [g1, ← he]; omega⟩, ?_⟩
  have hr : rAroundR (some (rnetG n)) c o = if ((rnetE n).1.getD ((rnetE n).2.getD (4 * c + o).toNat 0).toNat dEd).1 = c then ((rnetE n).2.getD (4 * c + o).toNat 0, (1 : Int), ()) else ((rnetE n).2.getD (4 * c + o).toNat 0, (-1 : Int), ()) := by
    unfold rAroundR rAround rnetG
    dsimp only
    rw [if_pos ok]
    split <;> rfl
  rw [hr]
  intro a ha
  have ha : a = decide (((rnetE n).1.getD ((rnetE n).2.getD (4 * c + o).toNat 0).toNat dEd).1 = c) := ha
  rw [ha]
  refine Br.intro (fun q => ?_) fun q => ?_
  · rw [if_pos (of_decide_eq_true q)]; rfl
  · rw [if_neg (of_decide_eq_false q)]; rfl
end Go.Lift

set_option linter.unusedVariables false
set_option linter.unusedSimpArgs false
namespace Go.Lift
def Fx_ref06_Cells := fun (a : Int) (post : Int × Unit → Prop) => ∀ (a_1 : Bool), a_1 = decide (a < (1 : Int)) → Br a_1 (post ((0 : Int), ())) (∀ (a_2 : Bool), a_2 = decide (a > (32
  : Int)) → Br a_2 (post ((0 : Int), ())) (post (IntKind.i64.wrap (IntKind.i64.wrap ((6 : Int) * a) * a), ())))
theorem Lx_ref06_Cells (a : Int) (h : I64 a) : Fx_ref06_Cells  a (fun r => r = cellsR a) := by
  rintro _ rfl
  refine Br.intro (fun e => ?_) fun e => ?_
  · have e := of_decide_eq_true e
    exact congrArg r1 (cells_bad (goodC_false.2 (.inl e))).symm
  have e := of_decide_eq_false e
  rintro _ rfl
  refine Br.intro (fun f => ?_) fun f => ?_
  · have f := of_decide_eq_true f
    exact congrArg r1 (cells_bad (goodC_false.2 (.inr f))).symm
  · have f := of_decide_eq_false f
    exact congrArg r1 (cells_wrap (goodC_iff.2 ⟨by omega, by omega⟩))
def Fx_ref06_Place := fun (n c : Int) (post : Int × Int × Int × Bool × Unit → Prop) => ∀ (a : Bool), a = decide (c < (0 : Int)) → Br a (post ((0 : Int), (0 : Int), (0 : Int),
  Bool.false, ())) (∃ (h : I64 n), ∀ (a : Bool), a = decide (c ≥ (cellsR n).fst) → Br a (post ((0 : Int), (0 : Int), (0 : Int), Bool.false, ())) (∃ (h : IntKind.i64.wrap (n * n) ≠
  (0 : Int)), ∃ (h : n ≠ (0 : Int)), ∃ (h : n ≠ (0 : Int)), ∃ (h : n ≠ (0 : Int)), post (IntKind.i64.wrap (c.tdiv (IntKind.i64.wrap (n * n))), c.tmod n, (IntKind.i64.wrap (c.tdiv
  n)).tmod n, Bool.true, ())))
theorem Lx_ref06_Place (n : Int) (c : Int) (h : II n c) : Fx_ref06_Place  n c (fun r => r = placeR4 n c) := by
  have bad : placeOk n c = false → ((0 : Int), (0 : Int), (0 : Int), false, ()) = placeR4 n c := by
    intro e; unfold placeR4; rw [if_neg (by rw [e]; decide)]
  rintro _ rfl
  refine Br.intro (fun e => ?_) fun e => ?_
  · have e := of_decide_eq_true e
    exact bad (by unfold placeOk; rw [decide_eq_false (by omega), Bool.false_and])
  · have e := of_decide_eq_false e
    refine ⟨h.1, ?_⟩
    rintro _ rfl
    refine Br.intro (fun f => ?_) fun f => ?_
    · have f : cellsI n ≤ c := of_decide_eq_true f
      exact bad (by unfold placeOk; rw [decide_eq_false (p := c < cellsI n) (by omega), Bool.and_false])
    · have f : ¬ c ≥ cellsI n := of_decide_eq_false f
      have ok : placeOk n c = true := by unfold placeOk; rw [decide_eq_true (by omega), decide_eq_true (by omega)]; rfl
      obtain ⟨h1, h2, h3, h4, h5, h6⟩ := place_facts ok
      obtain ⟨r1, r2, r3, r4, r5, r6⟩ := place_rng ok
      have w1 : IntKind.i64.wrap (n * n) = n * n := wi ⟨by omega, by omega⟩
      have d1 : c.tdiv (n * n) = c / (n * n) := Int.tdiv_eq_ediv_of_nonneg h3
      have d2 : c.tdiv n = c / n := Int.tdiv_eq_ediv_of_nonneg h3
      have d3 : 0 ≤ c / n ∧ c / n ≤ c := ⟨Int.ediv_nonneg h3 (by omega), Int.ediv_le_self _ h3⟩
      have w2 : IntKind.i64.wrap (c / n) = c / n := wi ⟨by omega, by have := h.2; unfold I64 at this; omega⟩
      have w3 : IntKind.i64.wrap (c / (n * n)) = c / (n * n) := wi ⟨by omega, by omega⟩
      refine ⟨by rw [w1]; omega, by omega, by omega, by omega, ?_⟩
      rw [w1, d1, w3, d2, w2, Int.tmod_eq_emod_of_nonneg h3, Int.tmod_eq_emod_of_nonneg d3.1]
      unfold placeR4; rw [if_pos ok]
end Go.Lift

set_option linter.unusedVariables false
set_option linter.unusedSimpArgs false
namespace Go.Lift
open Go.Proofs
def Rbx_ref06_Cells : Cx := ⟨tabOf Rbtab, conOf [], RbG⟩
theorem Rbx_ref06_Cells_ok : CxOk Tryz.prog Rbx_ref06_Cells := ⟨tabB_sound Rbtab_ok, fun f c h => by cases h⟩
theorem Rbat_ref06_Cells : FnAt Tryz.prog 63 Tryz.f63.ntmps Tryz.f63.results.toList (Tryz.f63.body.getD .skip) := ⟨Tryz.f63, Tryz.func63, rfl, rfl, by simp, by decide⟩
theorem Rbeq_ref06_Cells (a : Int) (post : Int × Unit → Prop) : fnEval Rbx_ref06_Cells nHn Tryz.f63.ntmps Tryz.f63.results.toList (Tryz.f63.body.getD .skip) [.int .i64] [.snap (.int .i64)] (a, ()) post = Fx_ref06_Cells  a post := by kernel_rfl
theorem Rbh_ref06_Cells : Rbq_ref06_Cells.holds Tryz.prog RbG 63 :=
  detP Rbx_ref06_Cells_ok Rbmixed nHn Rbat_ref06_Cells (F := fun x post => Fx_ref06_Cells  x.1 post) (fun x post => Rbeq_ref06_Cells x.1 post) fun x h _ => Lx_ref06_Cells  x.1 h
def Rbx_ref06_Place : Cx := ⟨tabOf Rbtab, conOf [(63, Rbq_ref06_Cells)], RbG⟩
theorem Rbx_ref06_Place_ok : CxOk Tryz.prog Rbx_ref06_Place := ⟨tabB_sound Rbtab_ok, conOf_sound ⟨Rbh_ref06_Cells, trivial⟩⟩
theorem Rbat_ref06_Place : FnAt Tryz.prog 130 Tryz.f130.ntmps Tryz.f130.results.toList (Tryz.f130.body.getD .skip) := ⟨Tryz.f130, Tryz.func130, rfl, rfl, by simp, by decide⟩
theorem Rbeq_ref06_Place (n : Int) (c : Int) (post : Int × Int × Int × Bool × Unit → Prop) : fnEval Rbx_ref06_Place nHn Tryz.f130.ntmps Tryz.f130.results.toList (Tryz.f130.body.getD .skip) [.int .i64, .int .i64] [.snap (.int .i64), .snap (.int .i64), .snap (.int .i64), .snap .bool] (n, c, ()) post = Fx_ref06_Place  n c post := by kernel_rfl
theorem Rbh_ref06_Place : Rbq_ref06_Place.holds Tryz.prog RbG 130 :=
  detP Rbx_ref06_Place_ok Rbmixed nHn Rbat_ref06_Place (F := fun x post => Fx_ref06_Place  x.1 x.2.1 post) (fun x post => Rbeq_ref06_Place x.1 x.2.1 post) fun x h _ => Lx_ref06_Place  x.1 x.2.1 h
end Go.Lift

set_option linter.unusedVariables false
set_option linter.unusedSimpArgs false
namespace Go.Lift
def Fx_ref06_plus := fun (a : Int × Int × Int) (k : Int) (b : Int × Int × Int) (post : (Int × Int × Int) × Unit → Prop) => post ((IntKind.i64.wrap (a.fst + IntKind.i64.wrap (k *
  b.fst)), IntKind.i64.wrap (a.snd.fst + IntKind.i64.wrap (k * b.snd.fst)), IntKind.i64.wrap (a.snd.snd + IntKind.i64.wrap (k * b.snd.snd))), ())
theorem Lx_ref06_plus (a : Int × Int × Int) (k : Int) (b : Int × Int × Int) (h : WPlusP a k b) : Fx_ref06_plus  a k b (fun r => r = plusPR a k b) := by
  obtain ⟨⟨⟨a1, a2⟩, ⟨a3, a4⟩, a5, a6⟩, k1, k2, ⟨b1, b2⟩, ⟨b3, b4⟩, b5, b6⟩ := h
  have e1 := mul_bd k1 k2 b1 b2
  have e2 := mul_bd k1 k2 b3 b4
  have e3 := mul_bd k1 k2 b5 b6
  unfold Fx_ref06_plus
  rw [wi (x := k * b.1) ⟨by omega, by omega⟩, wi (x := k * b.2.1) ⟨by omega, by omega⟩, wi (x := k * b.2.2) ⟨by omega, by omega⟩, wi (x := a.1 + k * b.1) ⟨by omega, by omega⟩, wi (x := a.2.1 + k * b.2.1) ⟨by omega, by omega⟩, wi (x := a.2.2 + k * b.2.2) ⟨by omega, by omega⟩]
  rfl
def Fx_ref06_dot := fun (a b : Int × Int × Int) (post : Int × Unit → Prop) => post (IntKind.i64.wrap (IntKind.i64.wrap (IntKind.i64.wrap (a.fst * b.fst) + IntKind.i64.wrap
  (a.snd.fst * b.snd.fst)) + IntKind.i64.wrap (a.snd.snd * b.snd.snd)), ())
theorem Lx_ref06_dot (a : Int × Int × Int) (b : Int × Int × Int) (h : WDotP a b) : Fx_ref06_dot  a b (fun r => r = dotPR a b) := by
  obtain ⟨⟨⟨a1, a2⟩, ⟨a3, a4⟩, a5, a6⟩, ⟨b1, b2⟩, ⟨b3, b4⟩, b5, b6⟩ := h
  have e1 := mul_bd a1 a2 b1 b2
  have e2 := mul_bd a3 a4 b3 b4
  have e3 := mul_bd a5 a6 b5 b6
  unfold Fx_ref06_dot
  rw [wi (x := a.1 * b.1) ⟨by omega, by omega⟩, wi (x := a.2.1 * b.2.1) ⟨by omega, by omega⟩, wi (x := a.2.2 * b.2.2) ⟨by omega, by omega⟩, wi (x := a.1 * b.1 + a.2.1 * b.2.1) ⟨by omega, by omega⟩, wi (x := a.1 * b.1 + a.2.1 * b.2.1 + a.2.2 * b.2.2) ⟨by omega, by omega⟩]
  rfl
def Fx_ref06_frame := fun (f : Int) (post : (Int × Int × Int) × (Int × Int × Int) × (Int × Int × Int) × Unit → Prop) => ∀ (a : Bool), a = (f == (0 : Int)) → Br a (post (((1 : Int),
  (0 : Int), (0 : Int)), ((0 : Int), (1 : Int), (0 : Int)), ((0 : Int), (0 : Int), (1 : Int)), ())) (∀ (a : Bool), a = (f == (1 : Int)) → Br a (∃ (h : WPlusP ((0 : Int), (0 : Int),
  (0 : Int)) (-1 : Int) ((1 : Int), (0 : Int), (0 : Int))), ∀ (a : (Int × Int × Int) × Unit), a = plusPR ((0 : Int), (0 : Int), (0 : Int)) (-1 : Int) ((1 : Int), (0 : Int), (0 :
  Int)) → post (((0 : Int), (1 : Int), (0 : Int)), (a.fst.fst, a.fst.snd.fst, a.fst.snd.snd), ((0 : Int), (0 : Int), (1 : Int)), ())) (∀ (a : Bool), a = (f == (2 : Int)) → Br a (∃
  (h : WPlusP ((0 : Int), (0 : Int), (0 : Int)) (-1 : Int) ((1 : Int), (0 : Int), (0 : Int))), ∀ (a : (Int × Int × Int) × Unit), a = plusPR ((0 : Int), (0 : Int), (0 : Int)) (-1 :
  Int) ((1 : Int), (0 : Int), (0 : Int)) → ∃ (h : WPlusP ((0 : Int), (0 : Int), (0 : Int)) (-1 : Int) ((0 : Int), (1 : Int), (0 : Int))), ∀ (a_1 : (Int × Int × Int) × Unit), a_1 =
  plusPR ((0 : Int), (0 : Int), (0 : Int)) (-1 : Int) ((0 : Int), (1 : Int), (0 : Int)) → post ((a.fst.fst, a.fst.snd.fst, a.fst.snd.snd), (a_1.fst.fst, a_1.fst.snd.fst,
  a_1.fst.snd.snd), ((0 : Int), (0 : Int), (1 : Int)), ())) (∀ (a : Bool), a = (f == (3 : Int)) → Br a (∃ (h : WPlusP ((0 : Int), (0 : Int), (0 : Int)) (-1 : Int) ((0 : Int), (1 :
  Int), (0 : Int))), ∀ (a : (Int × Int × Int) × Unit), a = plusPR ((0 : Int), (0 : Int), (0 : Int)) (-1 : Int) ((0 : Int), (1 : Int), (0 : Int)) → post ((a.fst.fst, a.fst.snd.fst,
  a.fst.snd.snd), ((1 : Int), (0 : Int), (0 : Int)), ((0 : Int), (0 : Int), (1 : Int)), ())) (∀ (a : Bool), a = (f == (4 : Int)) → Br a (∃ (h : WPlusP ((0 : Int), (0 : Int), (0 :
  Int)) (-1 : Int) ((1 : Int), (0 : Int), (0 : Int))), ∀ (a : (Int × Int × Int) × Unit), a = plusPR ((0 : Int), (0 : Int), (0 : Int)) (-1 : Int) ((1 : Int), (0 : Int), (0 : Int)) →
  post (((0 : Int), (0 : Int), (1 : Int)), ((0 : Int), (1 : Int), (0 : Int)), (a.fst.fst, a.fst.snd.fst, a.fst.snd.snd), ())) (∃ (h : WPlusP ((0 : Int), (0 : Int), (0 : Int)) (-1 :
  Int) ((0 : Int), (0 : Int), (1 : Int))), ∀ (a : (Int × Int × Int) × Unit), a = plusPR ((0 : Int), (0 : Int), (0 : Int)) (-1 : Int) ((0 : Int), (0 : Int), (1 : Int)) → post
  ((a.fst.fst, a.fst.snd.fst, a.fst.snd.snd), ((0 : Int), (1 : Int), (0 : Int)), ((1 : Int), (0 : Int), (0 : Int)), ()))))))
theorem Lx_ref06_frame (f : Int) : Fx_ref06_frame  f (fun r => r = framePR f) := by
  have wp : ∀ b : Pt, Bp 65536 b → WPlusP ((0 : Int), (0 : Int), (0 : Int)) (-1 : Int) b := fun b hb => ⟨zeroP_bd.mono (by decide), by decide, by decide, hb⟩
  have w1 := wp ((1 : Int), (0 : Int), (0 : Int)) (by unfold Bp; decide)
  have w2 := wp ((0 : Int), (1 : Int), (0 : Int)) (by unfold Bp; decide)
  have w3 := wp ((0 : Int), (0 : Int), (1 : Int)) (by unfold Bp; decide)
  rintro _ rfl
  refine Br.intro (fun e => ?_) fun e0 => ?_
  · rw [show f = 0 from beq_iff_eq.1 e]; rfl
  rintro _ rfl
  refine Br.intro (fun e => ?_) fun e1 => ?_
  · rw [show f = 1 from beq_iff_eq.1 e]
    refine ⟨w1, ?_⟩
    rintro _ rfl
    rfl
  rintro _ rfl
  refine Br.intro (fun e => ?_) fun e2 => ?_
  · rw [show f = 2 from beq_iff_eq.1 e]
    refine ⟨w1, ?_⟩
    rintro _ rfl
    refine ⟨w2, ?_⟩
    rintro _ rfl
    rfl
  rintro _ rfl
  refine Br.intro (fun e => ?_) fun e3 => ?_
  · rw [show f = 3 from beq_iff_eq.1 e]
    refine ⟨w2, ?_⟩
    rintro _ rfl
    rfl
  rintro _ rfl
  refine Br.intro (fun e => ?_) fun e4 => ?_
  · rw [show f = 4 from beq_iff_eq.1 e]
    refine ⟨w1, ?_⟩
    rintro _ rfl
    rfl
  refine ⟨w3, ?_⟩
  rintro _ rfl
  have b : ∀ k : Int, (f == k) = false → ¬ f = k := fun k e q => by rw [q, beq_self_eq_true] at e; cases e
  have hf : frameP f = ((0, 0, -1), (0, 1, 0), (1, 0, 0)) := by
    unfold frameP; rw [if_neg (b _ e0), if_neg (b _ e1), if_neg (b _ e2), if_neg (b _ e3), if_neg (b _ e4)]
  show _ = ((frameP f).1, (frameP f).2.1, (frameP f).2.2, ())
  rw [hf]; rfl
def Fx_ref06_Cell := fun (n f i j : Int) (post : Int × Unit → Prop) => ∃ (h : I64 n), ∀ (a : Bool), a = ((cellsR n).fst == (0 : Int)) → Br a (post ((-1 : Int), ())) (∀ (a : Bool), a
  = decide (f < (0 : Int)) → Br a (post ((-1 : Int), ())) (∀ (a : Bool), a = decide (f > (5 : Int)) → Br a (post ((-1 : Int), ())) (∀ (a : Bool), a = decide (i < (0 : Int)) → Br a
  (post ((-1 : Int), ())) (∀ (a : Bool), a = decide (i ≥ n) → Br a (post ((-1 : Int), ())) (∀ (a : Bool), a = decide (j < (0 : Int)) → Br a (post ((-1 : Int), ())) (∀ (a : Bool), a
  = decide (j ≥ n) → Br a (post ((-1 : Int), ())) (post (IntKind.i64.wrap (IntKind.i64.wrap (IntKind.i64.wrap (IntKind.i64.wrap (f * n) + j) * n) + i), ()))))))))
theorem Lx_ref06_Cell (n : Int) (f : Int) (i : Int) (j : Int) (h : IIII n f i j) : Fx_ref06_Cell  n f i j (fun r => r = cellR n f i j) := by
  obtain ⟨hn, hf, hi, hj⟩ := h
  have no : cellOk n f i j = false → ((-1 : Int), ()) = cellR n f i j := fun q => congrArg r1 (by unfold cellI; rw [if_neg (by rw [q]; decide)])
  refine ⟨hn, ?_⟩
  rintro _ rfl
  refine Br.intro (fun e => no ?_) fun e => ?_
  · have e : cellsI n = 0 := beq_iff_eq.1 e
    cases g : goodC n with
    | false => unfold cellOk; rw [g]; rfl
    | true =>
      rw [cells_good g] at e
      obtain ⟨n1, n2⟩ := goodC_iff.1 g
      have := sq_bd n1 n2
      omega
  have g : goodC n = true := by
    cases g : goodC n with
    | true => rfl
    | false =>
      have : (cellsR n).fst = 0 := cells_bad g
      rw [this] at e; cases e
  rintro _ rfl
  refine Br.intro (fun q => no ?_) fun q => ?_
  · unfold cellOk; rw [decide_eq_false (p := 0 ≤ f) (by have := of_decide_eq_true q; omega)]; simp
  have q1 := of_decide_eq_false q
  rintro _ rfl
  refine Br.intro (fun q => no ?_) fun q => ?_
  · unfold cellOk; rw [decide_eq_false (p := f < 6) (by have := of_decide_eq_true q; omega)]; simp
  have q2 := of_decide_eq_false q
  rintro _ rfl
  refine Br.intro (fun q => no ?_) fun q => ?_
  · unfold cellOk; rw [decide_eq_false (p := 0 ≤ i) (by have := of_decide_eq_true q; omega)]; simp
  have q3 := of_decide_eq_false q
  rintro _ rfl
  refine Br.intro (fun q => no ?_) fun q => ?_
  · unfold cellOk; rw [decide_eq_false (p := i < n) (by have := of_decide_eq_true q; omega)]; simp
  have q4 := of_decide_eq_false q
  rintro _ rfl
  refine Br.intro (fun q => no ?_) fun q => ?_
  · unfold cellOk; rw [decide_eq_false (p := 0 ≤ j) (by have := of_decide_eq_true q; omega)]; simp
  have q5 := of_decide_eq_false q
  rintro _ rfl
  refine Br.intro (fun q => no ?_) fun q => ?_
  · unfold cellOk; rw [decide_eq_false (p := j < n) (by have := of_decide_eq_true q; omega)]; simp
  have q6 := of_decide_eq_false q
  have hok : cellOk n f i j = true := by
    unfold cellOk
    rw [g, decide_eq_true (p := 0 ≤ f) (by omega), decide_eq_true (p := f < 6) (by omega), decide_eq_true (p := 0 ≤ i) (by omega), decide_eq_true (p := i < n) (by omega), decide_eq_true (p := 0 ≤ j) (by omega), decide_eq_true (p := j < n) (by omega)]; rfl
  obtain ⟨r0, r1', n1, n2⟩ := cell_rng hok
  have hv : cellI n f i j = (f * n + j) * n + i := by unfold cellI; rw [if_pos hok]
  rw [hv] at r0 r1'
  have sq := sq_bd n1 n2
  have b1 : 0 ≤ f * n := Int.mul_nonneg (by omega) (by omega)
  have b2 : f * n ≤ 5 * n := Int.mul_le_mul_of_nonneg_right (by omega) (by omega)
  have b3 : 0 ≤ (f * n + j) * n := Int.mul_nonneg (by omega) (by omega)
  rw [wi (x := f * n) ⟨by omega, by omega⟩, wi (x := f * n + j) ⟨by omega, by omega⟩, wi (x := (f * n + j) * n) ⟨by omega, by omega⟩, wi (x := (f * n + j) * n + i) ⟨by omega, by omega⟩]
  exact congrArg r1 hv.symm
def Fx_ref06_middle := fun (n c : Int) (post : (Int × Int × Int) × Unit → Prop) => ∃ (h : II n c), ∃ (h : True), ∀ (a : (Int × Int × Int) × (Int × Int × Int) × (Int × Int × Int) ×
  Unit), a = framePR (placeR4 n c).fst → ∃ (h : WPlusP ((0 : Int), (0 : Int), (0 : Int)) n (a.fst.fst, a.fst.snd.fst, a.fst.snd.snd)), ∀ (a_1 : (Int × Int × Int) × Unit), a_1 =
  plusPR ((0 : Int), (0 : Int), (0 : Int)) n (a.fst.fst, a.fst.snd.fst, a.fst.snd.snd) → ∃ (h : WPlusP a_1.fst (IntKind.i64.wrap (IntKind.i64.wrap (IntKind.i64.wrap ((2 : Int) *
  (placeR4 n c).snd.fst) + (1 : Int)) - n)) (a.snd.fst.fst, a.snd.fst.snd.fst, a.snd.fst.snd.snd)), ∀ (a_2 : (Int × Int × Int) × Unit), a_2 = plusPR a_1.fst (IntKind.i64.wrap
  (IntKind.i64.wrap (IntKind.i64.wrap ((2 : Int) * (placeR4 n c).snd.fst) + (1 : Int)) - n)) (a.snd.fst.fst, a.snd.fst.snd.fst, a.snd.fst.snd.snd) → ∃ (h : WPlusP a_2.fst
  (IntKind.i64.wrap (IntKind.i64.wrap (IntKind.i64.wrap ((2 : Int) * (placeR4 n c).snd.snd.fst) + (1 : Int)) - n)) (a.snd.snd.fst.fst, a.snd.snd.fst.snd.fst,
  a.snd.snd.fst.snd.snd)), ∀ (a_3 : (Int × Int × Int) × Unit), a_3 = plusPR a_2.fst (IntKind.i64.wrap (IntKind.i64.wrap (IntKind.i64.wrap ((2 : Int) * (placeR4 n c).snd.snd.fst) +
  (1 : Int)) - n)) (a.snd.snd.fst.fst, a.snd.snd.fst.snd.fst, a.snd.snd.fst.snd.snd) → post ((a_3.fst.fst, a_3.fst.snd.fst, a_3.fst.snd.snd), ())
theorem Lx_ref06_middle (n : Int) (c : Int) (h : PlaceP n c) : Fx_ref06_middle  n c (fun r => r = midPR n c) := by
  have hm := place_mid h
  obtain ⟨g1, g2, g3, g4, g5, g6⟩ := place_facts h
  unfold Fx_ref06_middle
  rw [place_eq h]
  obtain ⟨n1, n2, f0, f5, i0, i1, j0, j1⟩ := hm
  dsimp only
  have w1 : IntKind.i64.wrap (IntKind.i64.wrap (IntKind.i64.wrap (2 * (c % n)) + 1) - n) = 2 * (c % n) + 1 - n := by
    rw [wi (x := 2 * (c % n)) ⟨by omega, by omega⟩, wi (x := 2 * (c % n) + 1) ⟨by omega, by omega⟩, wi ⟨by omega, by omega⟩]
  have w2 : IntKind.i64.wrap (IntKind.i64.wrap (IntKind.i64.wrap (2 * (c / n % n)) + 1) - n) = 2 * (c / n % n) + 1 - n := by
    rw [wi (x := 2 * (c / n % n)) ⟨by omega, by omega⟩, wi (x := 2 * (c / n % n) + 1) ⟨by omega, by omega⟩, wi ⟨by omega, by omega⟩]
  rw [w1, w2]
  obtain ⟨b1, b2, b3⟩ := frameP_bd (c / (n * n))
  have p1 := plusP_bd zeroP_bd b1 (k := n) (q := 32) (by omega) (by omega)
  have p2 := plusP_bd p1 b2 (k := 2 * (c % n) + 1 - n) (q := 32) (by omega) (by omega)
  refine ⟨⟨⟨by omega, by omega⟩, by omega, by omega⟩, trivial, ?_⟩
  rintro _ rfl
  refine ⟨⟨zeroP_bd.mono (by decide), by omega, by omega, b1.mono (by decide)⟩, ?_⟩
  rintro _ rfl
  refine ⟨⟨p1.mono (by decide), by omega, by omega, b2.mono (by decide)⟩, ?_⟩
  rintro _ rfl
  refine ⟨⟨p2.mono (by decide), by omega, by omega, b3.mono (by decide)⟩, ?_⟩
  rintro _ rfl
  rfl
def Fx_ref06_way := fun (n c o : Int) (post : (Int × Int × Int) × Unit → Prop) => ∃ (h : II n c), ∃ (h : True), ∀ (a : (Int × Int × Int) × (Int × Int × Int) × (Int × Int × Int) ×
  Unit), a = framePR (placeR4 n c).fst → ∀ (a_1 : Bool), a_1 = (o == (0 : Int)) → Br a_1 (post ((a.snd.fst.fst, a.snd.fst.snd.fst, a.snd.fst.snd.snd), ())) (∀ (a_2 : Bool), a_2 = (o
  == (1 : Int)) → Br a_2 (post ((a.snd.snd.fst.fst, a.snd.snd.fst.snd.fst, a.snd.snd.fst.snd.snd), ())) (∀ (a_3 : Bool), a_3 = (o == (2 : Int)) → Br a_3 (∃ (h : WPlusP ((0 : Int),
  (0 : Int), (0 : Int)) (-1 : Int) (a.snd.fst.fst, a.snd.fst.snd.fst, a.snd.fst.snd.snd)), ∀ (a_4 : (Int × Int × Int) × Unit), a_4 = plusPR ((0 : Int), (0 : Int), (0 : Int)) (-1 :
  Int) (a.snd.fst.fst, a.snd.fst.snd.fst, a.snd.fst.snd.snd) → post ((a_4.fst.fst, a_4.fst.snd.fst, a_4.fst.snd.snd), ())) (∃ (h : WPlusP ((0 : Int), (0 : Int), (0 : Int)) (-1 :
  Int) (a.snd.snd.fst.fst, a.snd.snd.fst.snd.fst, a.snd.snd.fst.snd.snd)), ∀ (a_4 : (Int × Int × Int) × Unit), a_4 = plusPR ((0 : Int), (0 : Int), (0 : Int)) (-1 : Int)
  (a.snd.snd.fst.fst, a.snd.snd.fst.snd.fst, a.snd.snd.fst.snd.snd) → post ((a_4.fst.fst, a_4.fst.snd.fst, a_4.fst.snd.snd), ()))))
theorem Lx_ref06_way (n : Int) (c : Int) (o : Int) (h : PlaceP3 n c o) : Fx_ref06_way  n c o (fun r => r = dirPR n c o) := by
  have hm := place_mid h
  obtain ⟨g1, g2, g3, g4, g5, g6⟩ := place_facts h
  unfold Fx_ref06_way
  have h' : placeOk n c = true := h
  rw [place_eq h']
  dsimp only
  obtain ⟨b1, b2, b3⟩ := frameP_bd (c / (n * n))
  refine ⟨⟨⟨by omega, by omega⟩, by omega, by omega⟩, trivial, ?_⟩
  rintro _ rfl
  have b : ∀ k : Int, (o == k) = false → ¬ o = k := fun k e q => by rw [q, beq_self_eq_true] at e; cases e
  rintro _ rfl
  refine Br.intro (fun e => ?_) fun e0 => ?_
  · rw [show o = 0 from beq_iff_eq.1 e]; rfl
  rintro _ rfl
  refine Br.intro (fun e => ?_) fun e1 => ?_
  · rw [show o = 1 from beq_iff_eq.1 e]; rfl
  rintro _ rfl
  refine Br.intro (fun e => ?_) fun e2 => ?_
  · refine ⟨⟨zeroP_bd.mono (by decide), by decide, by decide, b2.mono (by decide)⟩, ?_⟩
    rintro _ rfl
    rw [show o = 2 from beq_iff_eq.1 e]; rfl
  refine ⟨⟨zeroP_bd.mono (by decide), by decide, by decide, b3.mono (by decide)⟩, ?_⟩
  rintro _ rfl
  show _ = (dirP (c / (n * n)) o, ())
  unfold dirP
  rw [if_neg (b _ e0), if_neg (b _ e1), if_neg (b _ e2)]; rfl
def Fx_ref06_Beside := fun (ty138 : Nat) (n c o : Int) (post : Int × Int × Unit → Prop) => ∀ (a : Bool), a = decide (c < (0 : Int)) → Br a (post ((-1 : Int), (0 : Int), ())) (∃ (h :
  I64 n), ∀ (a : Bool), a = decide (c ≥ (cellsR n).fst) → Br a (post ((-1 : Int), (0 : Int), ())) (∀ (a : Bool), a = decide (o < (0 : Int)) → Br a (post ((-1 : Int), (0 : Int), ()))
  (∀ (a : Bool), a = decide (o > (3 : Int)) → Br a (post ((-1 : Int), (0 : Int), ())) (∃ (h : PlaceP n c), ∀ (a : (Int × Int × Int) × Unit), a = midPR n c → ∃ (h : PlaceP3 n c o), ∀
  (a_1 : (Int × Int × Int) × Unit), a_1 = dirPR n c o → ∃ (h : WPlusP a.fst (1 : Int) a_1.fst), ∀ (a_2 : (Int × Int × Int) × Unit), a_2 = plusPR a.fst (1 : Int) a_1.fst → HIs
  [HObj.box Md.rw ty138 [SV.val (Go.Value.int IntKind.i64 a_2.fst.fst), SV.val (Go.Value.int IntKind.i64 a_2.fst.snd.fst), SV.val (Go.Value.int IntKind.i64 a_2.fst.snd.snd)]]
  [HObj.box Md.rw ty138 [SV.val (Go.Value.int IntKind.i64 a_2.fst.fst), SV.val (Go.Value.int IntKind.i64 a_2.fst.snd.fst), SV.val (Go.Value.int IntKind.i64 a_2.fst.snd.snd)]] ∧ ∃ (I
  : Int × Unit → Unit → Prop), ∃ (μ : Int × Unit → Unit → Nat), I ((0 : Int), ()) () ∧ ∀ (x : Int × Unit) (y : Unit), I x y → ∀ (a : Bool), a = decide (x.fst < (6 : Int)) → Br a (∃
  (h : True), ∀ (a : (Int × Int × Int) × (Int × Int × Int) × (Int × Int × Int) × Unit), a = framePR x.fst → ∃ (h : WDotP (a_2.fst.fst, a_2.fst.snd.fst, a_2.fst.snd.snd) (a.fst.fst,
  a.fst.snd.fst, a.fst.snd.snd)), ∀ (a_3 : Int × Unit), a_3 = dotPR (a_2.fst.fst, a_2.fst.snd.fst, a_2.fst.snd.snd) (a.fst.fst, a.fst.snd.fst, a.fst.snd.snd) → ∀ (a_4 : Bool), a_4 =
  (a_3.fst != n) → Br a_4 (HIs [HObj.box Md.rw ty138 [SV.val (Go.Value.int IntKind.i64 a_2.fst.fst), SV.val (Go.Value.int IntKind.i64 a_2.fst.snd.fst), SV.val (Go.Value.int
  IntKind.i64 a_2.fst.snd.snd)]] [HObj.box Md.rw ty138 [SV.val (Go.Value.int IntKind.i64 a_2.fst.fst), SV.val (Go.Value.int IntKind.i64 a_2.fst.snd.fst), SV.val (Go.Value.int
  IntKind.i64 a_2.fst.snd.snd)]] ∧ I (IntKind.i64.wrap (x.fst + (1 : Int)), ()) () ∧ μ (IntKind.i64.wrap (x.fst + (1 : Int)), ()) () < μ x y) (HIs [HObj.box Md.rw ty138 [SV.val
  (Go.Value.int IntKind.i64 a_2.fst.fst), SV.val (Go.Value.int IntKind.i64 a_2.fst.snd.fst), SV.val (Go.Value.int IntKind.i64 a_2.fst.snd.snd)], HObj.box Md.rw ty138 [SV.val
  (Go.Value.int IntKind.i64 a.fst.fst), SV.val (Go.Value.int IntKind.i64 a.fst.snd.fst), SV.val (Go.Value.int IntKind.i64 a.fst.snd.snd)], HObj.box Md.rw ty138 [SV.val (Go.Value.int
  IntKind.i64 a.snd.fst.fst), SV.val (Go.Value.int IntKind.i64 a.snd.fst.snd.fst), SV.val (Go.Value.int IntKind.i64 a.snd.fst.snd.snd)], HObj.box Md.rw ty138 [SV.val (Go.Value.int
  IntKind.i64 a.snd.snd.fst.fst), SV.val (Go.Value.int IntKind.i64 a.snd.snd.fst.snd.fst), SV.val (Go.Value.int IntKind.i64 a.snd.snd.fst.snd.snd)]] [HObj.box Md.rw ty138 [SV.val
  (Go.Value.int IntKind.i64 a_2.fst.fst), SV.val (Go.Value.int IntKind.i64 a_2.fst.snd.fst), SV.val (Go.Value.int IntKind.i64 a_2.fst.snd.snd)], HObj.box Md.rw ty138 [SV.val
  (Go.Value.int IntKind.i64 a.fst.fst), SV.val (Go.Value.int IntKind.i64 a.fst.snd.fst), SV.val (Go.Value.int IntKind.i64 a.fst.snd.snd)], HObj.box Md.rw ty138 [SV.val (Go.Value.int
  IntKind.i64 a.snd.fst.fst), SV.val (Go.Value.int IntKind.i64 a.snd.fst.snd.fst), SV.val (Go.Value.int IntKind.i64 a.snd.fst.snd.snd)], HObj.box Md.rw ty138 [SV.val (Go.Value.int
  IntKind.i64 a.snd.snd.fst.fst), SV.val (Go.Value.int IntKind.i64 a.snd.snd.fst.snd.fst), SV.val (Go.Value.int IntKind.i64 a.snd.snd.fst.snd.snd)]] ∧ ∃ (I_1 : Int × Unit → Unit →
  Prop), ∃ (μ_1 : Int × Unit → Unit → Nat), I_1 ((0 : Int), ()) () ∧ ∀ (x_6 : Int × Unit) (y_1 : Unit), I_1 x_6 y_1 → ∀ (a_5 : Bool), a_5 = decide (x_6.fst < (4 : Int)) → Br a_5 (∃
  (h : WPlusP (a_2.fst.fst, a_2.fst.snd.fst, a_2.fst.snd.snd) (-1 : Int) (a.snd.fst.fst, a.snd.fst.snd.fst, a.snd.fst.snd.snd)), ∀ (a_6 : (Int × Int × Int) × Unit), a_6 = plusPR
  (a_2.fst.fst, a_2.fst.snd.fst, a_2.fst.snd.snd) (-1 : Int) (a.snd.fst.fst, a.snd.fst.snd.fst, a.snd.fst.snd.snd) → ∃ (post_1 : Int × Int × Int × Unit → Unit → Prop), (∀ (a_7 :
  Bool), a_7 = (x_6.fst == (1 : Int)) → Br a_7 (∃ (h : WPlusP (a_2.fst.fst, a_2.fst.snd.fst, a_2.fst.snd.snd) (-1 : Int) (a.snd.snd.fst.fst, a.snd.snd.fst.snd.fst,
  a.snd.snd.fst.snd.snd)), ∀ (a_8 : (Int × Int × Int) × Unit), a_8 = plusPR (a_2.fst.fst, a_2.fst.snd.fst, a_2.fst.snd.snd) (-1 : Int) (a.snd.snd.fst.fst, a.snd.snd.fst.snd.fst,
  a.snd.snd.fst.snd.snd) → HIs [HObj.box Md.rw ty138 [SV.val (Go.Value.int IntKind.i64 a_2.fst.fst), SV.val (Go.Value.int IntKind.i64 a_2.fst.snd.fst), SV.val (Go.Value.int
  IntKind.i64 a_2.fst.snd.snd)], HObj.box Md.rw ty138 [SV.val (Go.Value.int IntKind.i64 a.fst.fst), SV.val (Go.Value.int IntKind.i64 a.fst.snd.fst), SV.val (Go.Value.int IntKind.i64
  a.fst.snd.snd)], HObj.box Md.rw ty138 [SV.val (Go.Value.int IntKind.i64 a.snd.fst.fst), SV.val (Go.Value.int IntKind.i64 a.snd.fst.snd.fst), SV.val (Go.Value.int IntKind.i64
  a.snd.fst.snd.snd)], HObj.box Md.rw ty138 [SV.val (Go.Value.int IntKind.i64 a.snd.snd.fst.fst), SV.val (Go.Value.int IntKind.i64 a.snd.snd.fst.snd.fst), SV.val (Go.Value.int
  IntKind.i64 a.snd.snd.fst.snd.snd)], HObj.box Md.rw ty138 [SV.junk, SV.junk, SV.junk]] [HObj.box Md.rw ty138 [SV.val (Go.Value.int IntKind.i64 a_2.fst.fst), SV.val (Go.Value.int
  IntKind.i64 a_2.fst.snd.fst), SV.val (Go.Value.int IntKind.i64 a_2.fst.snd.snd)], HObj.box Md.rw ty138 [SV.val (Go.Value.int IntKind.i64 a.fst.fst), SV.val (Go.Value.int
  IntKind.i64 a.fst.snd.fst), SV.val (Go.Value.int IntKind.i64 a.fst.snd.snd)], HObj.box Md.rw ty138 [SV.val (Go.Value.int IntKind.i64 a.snd.fst.fst), SV.val (Go.Value.int
  IntKind.i64 a.snd.fst.snd.fst), SV.val (Go.Value.int IntKind.i64 a.snd.fst.snd.snd)], HObj.box Md.rw ty138 [SV.val (Go.Value.int IntKind.i64 a.snd.snd.fst.fst), SV.val
  (Go.Value.int IntKind.i64 a.snd.snd.fst.snd.fst), SV.val (Go.Value.int IntKind.i64 a.snd.snd.fst.snd.snd)], HObj.box Md.rw ty138 [SV.junk, SV.junk, SV.junk]] ∧ post_1
  (a_8.fst.fst, a_8.fst.snd.fst, a_8.fst.snd.snd, ()) ()) (HIs [HObj.box Md.rw ty138 [SV.val (Go.Value.int IntKind.i64 a_2.fst.fst), SV.val (Go.Value.int IntKind.i64
  a_2.fst.snd.fst), SV.val (Go.Value.int IntKind.i64 a_2.fst.snd.snd)], HObj.box Md.rw ty138 [SV.val (Go.Value.int IntKind.i64 a.fst.fst), SV.val (Go.Value.int IntKind.i64
  a.fst.snd.fst), SV.val (Go.Value.int IntKind.i64 a.fst.snd.snd)], HObj.box Md.rw ty138 [SV.val (Go.Value.int IntKind.i64 a.snd.fst.fst), SV.val (Go.Value.int IntKind.i64
  a.snd.fst.snd.fst), SV.val (Go.Value.int IntKind.i64 a.snd.fst.snd.snd)], HObj.box Md.rw ty138 [SV.val (Go.Value.int IntKind.i64 a.snd.snd.fst.fst), SV.val (Go.Value.int
  IntKind.i64 a.snd.snd.fst.snd.fst), SV.val (Go.Value.int IntKind.i64 a.snd.snd.fst.snd.snd)], HObj.box Md.rw ty138 [SV.junk, SV.junk, SV.junk]] [HObj.box Md.rw ty138 [SV.val
  (Go.Value.int IntKind.i64 a_2.fst.fst), SV.val (Go.Value.int IntKind.i64 a_2.fst.snd.fst), SV.val (Go.Value.int IntKind.i64 a_2.fst.snd.snd)], HObj.box Md.rw ty138 [SV.val
  (Go.Value.int IntKind.i64 a.fst.fst), SV.val (Go.Value.int IntKind.i64 a.fst.snd.fst), SV.val (Go.Value.int IntKind.i64 a.fst.snd.snd)], HObj.box Md.rw ty138 [SV.val (Go.Value.int
  IntKind.i64 a.snd.fst.fst), SV.val (Go.Value.int IntKind.i64 a.snd.fst.snd.fst), SV.val (Go.Value.int IntKind.i64 a.snd.fst.snd.snd)], HObj.box Md.rw ty138 [SV.val (Go.Value.int
  IntKind.i64 a.snd.snd.fst.fst), SV.val (Go.Value.int IntKind.i64 a.snd.snd.fst.snd.fst), SV.val (Go.Value.int IntKind.i64 a.snd.snd.fst.snd.snd)], HObj.box Md.rw ty138 [SV.junk,
  SV.junk, SV.junk]] ∧ post_1 (a_6.fst.fst, a_6.fst.snd.fst, a_6.fst.snd.snd, ()) ())) ∧ ∀ (x_10 : Int × Int × Int × Unit) (y : Unit), post_1 x_10 y → ∃ (post_2 : Int × Int × Int ×
  Unit → Unit → Prop), (∀ (a_7 : Bool), a_7 = (x_6.fst == (2 : Int)) → Br a_7 (∃ (h : WPlusP (a_2.fst.fst, a_2.fst.snd.fst, a_2.fst.snd.snd) (1 : Int) (a.snd.fst.fst,
  a.snd.fst.snd.fst, a.snd.fst.snd.snd)), ∀ (a_8 : (Int × Int × Int) × Unit), a_8 = plusPR (a_2.fst.fst, a_2.fst.snd.fst, a_2.fst.snd.snd) (1 : Int) (a.snd.fst.fst,
  a.snd.fst.snd.fst, a.snd.fst.snd.snd) → HIs [HObj.box Md.rw ty138 [SV.val (Go.Value.int IntKind.i64 a_2.fst.fst), SV.val (Go.Value.int IntKind.i64 a_2.fst.snd.fst), SV.val
  (Go.Value.int IntKind.i64 a_2.fst.snd.snd)], HObj.box Md.rw ty138 [SV.val (Go.Value.int IntKind.i64 a.fst.fst), SV.val (Go.Value.int IntKind.i64 a.fst.snd.fst), SV.val
  (Go.Value.int IntKind.i64 a.fst.snd.snd)], HObj.box Md.rw ty138 [SV.val (Go.Value.int IntKind.i64 a.snd.fst.fst), SV.val (Go.Value.int IntKind.i64 a.snd.fst.snd.fst), SV.val
  (Go.Value.int IntKind.i64 a.snd.fst.snd.snd)], HObj.box Md.rw ty138 [SV.val (Go.Value.int IntKind.i64 a.snd.snd.fst.fst), SV.val (Go.Value.int IntKind.i64 a.snd.snd.fst.snd.fst),
  SV.val (Go.Value.int IntKind.i64 a.snd.snd.fst.snd.snd)], HObj.box Md.rw ty138 [SV.junk, SV.junk, SV.junk]] [HObj.box Md.rw ty138 [SV.val (Go.Value.int IntKind.i64 a_2.fst.fst),
  SV.val (Go.Value.int IntKind.i64 a_2.fst.snd.fst), SV.val (Go.Value.int IntKind.i64 a_2.fst.snd.snd)], HObj.box Md.rw ty138 [SV.val (Go.Value.int IntKind.i64 a.fst.fst), SV.val
  (Go.Value.int IntKind.i64 a.fst.snd.fst), SV.val (Go.Value.int IntKind.i64 a.fst.snd.snd)], HObj.box Md.rw ty138 [SV.val (Go.Value.int IntKind.i64 a.snd.fst.fst), SV.val
  (Go.Value.int IntKind.i64 a.snd.fst.snd.fst), SV.val (Go.Value.int IntKind.i64 a.snd.fst.snd.snd)], HObj.box Md.rw ty138 [SV.val (Go.Value.int IntKind.i64 a.snd.snd.fst.fst),
  SV.val (Go.Value.int IntKind.i64 a.snd.snd.fst.snd.fst), SV.val (Go.Value.int IntKind.i64 a.snd.snd.fst.snd.snd)], HObj.box Md.rw ty138 [SV.junk, SV.junk, SV.junk]] ∧ post_2
  (a_8.fst.fst, a_8.fst.snd.fst, a_8.fst.snd.snd, ()) ()) (HIs [HObj.box Md.rw ty138 [SV.val (Go.Value.int IntKind.i64 a_2.fst.fst), SV.val (Go.Value.int IntKind.i64
  a_2.fst.snd.fst), SV.val (Go.Value.int IntKind.i64 a_2.fst.snd.snd)], HObj.box Md.rw ty138 [SV.val (Go.Value.int IntKind.i64 a.fst.fst), SV.val (Go.Value.int IntKind.i64
  a.fst.snd.fst), SV.val (Go.Value.int IntKind.i64 a.fst.snd.snd)], HObj.box Md.rw ty138 [SV.val (Go.Value.int IntKind.i64 a.snd.fst.fst), SV.val (Go.Value.int IntKind.i64
  a.snd.fst.snd.fst), SV.val (Go.Value.int IntKind.i64 a.snd.fst.snd.snd)], HObj.box Md.rw ty138 [SV.val (Go.Value.int IntKind.i64 a.snd.snd.fst.fst), SV.val (Go.Value.int
  IntKind.i64 a.snd.snd.fst.snd.fst), SV.val (Go.Value.int IntKind.i64 a.snd.snd.fst.snd.snd)], HObj.box Md.rw ty138 [SV.junk, SV.junk, SV.junk]] [HObj.box Md.rw ty138 [SV.val
  (Go.Value.int IntKind.i64 a_2.fst.fst), SV.val (Go.Value.int IntKind.i64 a_2.fst.snd.fst), SV.val (Go.Value.int IntKind.i64 a_2.fst.snd.snd)], HObj.box Md.rw ty138 [SV.val
  (Go.Value.int IntKind.i64 a.fst.fst), SV.val (Go.Value.int IntKind.i64 a.fst.snd.fst), SV.val (Go.Value.int IntKind.i64 a.fst.snd.snd)], HObj.box Md.rw ty138 [SV.val (Go.Value.int
  IntKind.i64 a.snd.fst.fst), SV.val (Go.Value.int IntKind.i64 a.snd.fst.snd.fst), SV.val (Go.Value.int IntKind.i64 a.snd.fst.snd.snd)], HObj.box Md.rw ty138 [SV.val (Go.Value.int
  IntKind.i64 a.snd.snd.fst.fst), SV.val (Go.Value.int IntKind.i64 a.snd.snd.fst.snd.fst), SV.val (Go.Value.int IntKind.i64 a.snd.snd.fst.snd.snd)], HObj.box Md.rw ty138 [SV.junk,
  SV.junk, SV.junk]] ∧ post_2 (x_10.fst, x_10.snd.fst, x_10.snd.snd.fst, ()) ())) ∧ ∀ (x_12 : Int × Int × Int × Unit) (y : Unit), post_2 x_12 y → ∃ (post_3 : Int × Int × Int × Unit
  → Unit → Prop), (∀ (a_7 : Bool), a_7 = (x_6.fst == (3 : Int)) → Br a_7 (∃ (h : WPlusP (a_2.fst.fst, a_2.fst.snd.fst, a_2.fst.snd.snd) (1 : Int) (a.snd.snd.fst.fst,
  a.snd.snd.fst.snd.fst, a.snd.snd.fst.snd.snd)), ∀ (a_8 : (Int × Int × Int) × Unit), a_8 = plusPR (a_2.fst.fst, a_2.fst.snd.fst, a_2.fst.snd.snd) (1 : Int) (a.snd.snd.fst.fst,
  a.snd.snd.fst.snd.fst, a.snd.snd.fst.snd.snd) → HIs [HObj.box Md.rw (138 : Nat) [SV.val (Go.Value.int IntKind.i64 a_2.fst.fst), SV.val (Go.Value.int IntKind.i64 a_2.fst.snd.fst),
  SV.val (Go.Value.int IntKind.i64 a_2.fst.snd.snd)], HObj.box Md.rw (138 : Nat) [SV.val (Go.Value.int IntKind.i64 a.fst.fst), SV.val (Go.Value.int IntKind.i64 a.fst.snd.fst),
  SV.val (Go.Value.int IntKind.i64 a.fst.snd.snd)], HObj.box Md.rw (138 : Nat) [SV.val (Go.Value.int IntKind.i64 a.snd.fst.fst), SV.val (Go.Value.int IntKind.i64 a.snd.fst.snd.fst),
  SV.val (Go.Value.int IntKind.i64 a.snd.fst.snd.snd)], HObj.box Md.rw (138 : Nat) [SV.val (Go.Value.int IntKind.i64 a.snd.snd.fst.fst), SV.val (Go.Value.int IntKind.i64
  a.snd.snd.fst.snd.fst), SV.val (Go.Value.int IntKind.i64 a.snd.snd.fst.snd.snd)], HObj.box Md.rw (138 : Nat) [SV.junk, SV.junk, SV.junk]] [HObj.box Md.rw (138 : Nat) [SV.val
  (Go.Value.int IntKind.i64 a_2.fst.fst), SV.val (Go.Value.int IntKind.i64 a_2.fst.snd.fst), SV.val (Go.Value.int IntKind.i64 a_2.fst.snd.snd)], HObj.box Md.rw (138 : Nat) [SV.val
  (Go.Value.int IntKind.i64 a.fst.fst), SV.val (Go.Value.int IntKind.i64 a.fst.snd.fst), SV.val (Go.Value.int IntKind.i64 a.fst.snd.snd)], HObj.box Md.rw (138 : Nat) [SV.val
  (Go.Value.int IntKind.i64 a.snd.fst.fst), SV.val (Go.Value.int IntKind.i64 a.snd.fst.snd.fst), SV.val (Go.Value.int IntKind.i64 a.snd.fst.snd.snd)], HObj.box Md.rw (138 : Nat)
  [SV.val (Go.Value.int IntKind.i64 a.snd.snd.fst.fst), SV.val (Go.Value.int IntKind.i64 a.snd.snd.fst.snd.fst), SV.val (Go.Value.int IntKind.i64 a.snd.snd.fst.snd.snd)], HObj.box
  Md.rw (138 : Nat) [SV.junk, SV.junk, SV.junk]] ∧ post_3 (a_8.fst.fst, a_8.fst.snd.fst, a_8.fst.snd.snd, ()) ()) (HIs [HObj.box Md.rw ty138 [SV.val (Go.Value.int IntKind.i64
  a_2.fst.fst), SV.val (Go.Value.int IntKind.i64 a_2.fst.snd.fst), SV.val (Go.Value.int IntKind.i64 a_2.fst.snd.snd)], HObj.box Md.rw ty138 [SV.val (Go.Value.int IntKind.i64
  a.fst.fst), SV.val (Go.Value.int IntKind.i64 a.fst.snd.fst), SV.val (Go.Value.int IntKind.i64 a.fst.snd.snd)], HObj.box Md.rw ty138 [SV.val (Go.Value.int IntKind.i64
  a.snd.fst.fst), SV.val (Go.Value.int IntKind.i64 a.snd.fst.snd.fst), SV.val (Go.Value.int IntKind.i64 a.snd.fst.snd.snd)], HObj.box Md.rw ty138 [SV.val (Go.Value.int IntKind.i64
  a.snd.snd.fst.fst), SV.val (Go.Value.int IntKind.i64 a.snd.snd.fst.snd.fst), SV.val (Go.Value.int IntKind.i64 a.snd.snd.fst.snd.snd)], HObj.box Md.rw ty138 [SV.junk, SV.junk,
  SV.junk]] [HObj.box Md.rw ty138 [SV.val (Go.Value.int IntKind.i64 a_2.fst.fst), SV.val (Go.Value.int IntKind.i64 a_2.fst.snd.fst), SV.val (Go.Value.int IntKind.i64
  a_2.fst.snd.snd)], HObj.box Md.rw ty138 [SV.val (Go.Value.int IntKind.i64 a.fst.fst), SV.val (Go.Value.int IntKind.i64 a.fst.snd.fst), SV.val (Go.Value.int IntKind.i64
  a.fst.snd.snd)], HObj.box Md.rw ty138 [SV.val (Go.Value.int IntKind.i64 a.snd.fst.fst), SV.val (Go.Value.int IntKind.i64 a.snd.fst.snd.fst), SV.val (Go.Value.int IntKind.i64
  a.snd.fst.snd.snd)], HObj.box Md.rw ty138 [SV.val (Go.Value.int IntKind.i64 a.snd.snd.fst.fst), SV.val (Go.Value.int IntKind.i64 a.snd.snd.fst.snd.fst), SV.val (Go.Value.int
  IntKind.i64 a.snd.snd.fst.snd.snd)], HObj.box Md.rw ty138 [SV.junk, SV.junk, SV.junk]] ∧ post_3 (x_12.fst, x_12.snd.fst, x_12.snd.snd.fst, ()) ())) ∧ ∀ (x_14 : Int × Int × Int ×
  Unit) (y : Unit), post_3 x_14 y → ∃ (h : WDotP (x_14.fst, x_14.snd.fst, x_14.snd.snd.fst) (a.snd.fst.fst, a.snd.fst.snd.fst, a.snd.fst.snd.snd)), ∀ (a_7 : Int × Unit), a_7 = dotPR
  (x_14.fst, x_14.snd.fst, x_14.snd.snd.fst) (a.snd.fst.fst, a.snd.fst.snd.fst, a.snd.fst.snd.snd) → ∃ (h : WDotP (x_14.fst, x_14.snd.fst, x_14.snd.snd.fst) (a.snd.snd.fst.fst,
  a.snd.snd.fst.snd.fst, a.snd.snd.fst.snd.snd)), ∀ (a_8 : Int × Unit), a_8 = dotPR (x_14.fst, x_14.snd.fst, x_14.snd.snd.fst) (a.snd.snd.fst.fst, a.snd.snd.fst.snd.fst,
  a.snd.snd.fst.snd.snd) → ∃ (h : (2 : Int) ≠ (0 : Int)), ∀ (a_9 : Bool), a_9 = ((IntKind.i64.wrap (IntKind.i64.wrap (a_7.fst + n) - (1 : Int))).tmod (2 : Int) != (0 : Int)) → Br
  a_9 (HIs [HObj.box Md.rw (138 : Nat) [SV.val (Go.Value.int IntKind.i64 a_2.fst.fst), SV.val (Go.Value.int IntKind.i64 a_2.fst.snd.fst), SV.val (Go.Value.int IntKind.i64
  a_2.fst.snd.snd)], HObj.box Md.rw (138 : Nat) [SV.val (Go.Value.int IntKind.i64 a.fst.fst), SV.val (Go.Value.int IntKind.i64 a.fst.snd.fst), SV.val (Go.Value.int IntKind.i64
  a.fst.snd.snd)], HObj.box Md.rw (138 : Nat) [SV.val (Go.Value.int IntKind.i64 a.snd.fst.fst), SV.val (Go.Value.int IntKind.i64 a.snd.fst.snd.fst), SV.val (Go.Value.int IntKind.i64
  a.snd.fst.snd.snd)], HObj.box Md.rw (138 : Nat) [SV.val (Go.Value.int IntKind.i64 a.snd.snd.fst.fst), SV.val (Go.Value.int IntKind.i64 a.snd.snd.fst.snd.fst), SV.val (Go.Value.int
  IntKind.i64 a.snd.snd.fst.snd.snd)]] [HObj.box Md.rw (138 : Nat) [SV.val (Go.Value.int IntKind.i64 a_2.fst.fst), SV.val (Go.Value.int IntKind.i64 a_2.fst.snd.fst), SV.val
  (Go.Value.int IntKind.i64 a_2.fst.snd.snd)], HObj.box Md.rw (138 : Nat) [SV.val (Go.Value.int IntKind.i64 a.fst.fst), SV.val (Go.Value.int IntKind.i64 a.fst.snd.fst), SV.val
  (Go.Value.int IntKind.i64 a.fst.snd.snd)], HObj.box Md.rw (138 : Nat) [SV.val (Go.Value.int IntKind.i64 a.snd.fst.fst), SV.val (Go.Value.int IntKind.i64 a.snd.fst.snd.fst), SV.val
  (Go.Value.int IntKind.i64 a.snd.fst.snd.snd)], HObj.box Md.rw (138 : Nat) [SV.val (Go.Value.int IntKind.i64 a.snd.snd.fst.fst), SV.val (Go.Value.int IntKind.i64
  a.snd.snd.fst.snd.fst), SV.val (Go.Value.int IntKind.i64 a.snd.snd.fst.snd.snd)]] ∧ I_1 (IntKind.i64.wrap (x_6.fst + (1 : Int)), ()) () ∧ μ_1 (IntKind.i64.wrap (x_6.fst + (1 :
  Int)), ()) () < μ_1 x_6 y_1) (∃ (h : (2 : Int) ≠ (0 : Int)), ∀ (a_10 : Bool), a_10 = ((IntKind.i64.wrap (IntKind.i64.wrap (a_8.fst + n) - (1 : Int))).tmod (2 : Int) != (0 : Int))
  → Br a_10 (HIs [HObj.box Md.rw (138 : Nat) [SV.val (Go.Value.int IntKind.i64 a_2.fst.fst), SV.val (Go.Value.int IntKind.i64 a_2.fst.snd.fst), SV.val (Go.Value.int IntKind.i64
  a_2.fst.snd.snd)], HObj.box Md.rw (138 : Nat) [SV.val (Go.Value.int IntKind.i64 a.fst.fst), SV.val (Go.Value.int IntKind.i64 a.fst.snd.fst), SV.val (Go.Value.int IntKind.i64
  a.fst.snd.snd)], HObj.box Md.rw (138 : Nat) [SV.val (Go.Value.int IntKind.i64 a.snd.fst.fst), SV.val (Go.Value.int IntKind.i64 a.snd.fst.snd.fst), SV.val (Go.Value.int IntKind.i64
  a.snd.fst.snd.snd)], HObj.box Md.rw (138 : Nat) [SV.val (Go.Value.int IntKind.i64 a.snd.snd.fst.fst), SV.val (Go.Value.int IntKind.i64 a.snd.snd.fst.snd.fst), SV.val (Go.Value.int
  IntKind.i64 a.snd.snd.fst.snd.snd)]] [HObj.box Md.rw (138 : Nat) [SV.val (Go.Value.int IntKind.i64 a_2.fst.fst), SV.val (Go.Value.int IntKind.i64 a_2.fst.snd.fst), SV.val
  (Go.Value.int IntKind.i64 a_2.fst.snd.snd)], HObj.box Md.rw (138 : Nat) [SV.val (Go.Value.int IntKind.i64 a.fst.fst), SV.val (Go.Value.int IntKind.i64 a.fst.snd.fst), SV.val
  (Go.Value.int IntKind.i64 a.fst.snd.snd)], HObj.box Md.rw (138 : Nat) [SV.val (Go.Value.int IntKind.i64 a.snd.fst.fst), SV.val (Go.Value.int IntKind.i64 a.snd.fst.snd.fst), SV.val
  (Go.Value.int IntKind.i64 a.snd.fst.snd.snd)], HObj.box Md.rw (138 : Nat) [SV.val (Go.Value.int IntKind.i64 a.snd.snd.fst.fst), SV.val (Go.Value.int IntKind.i64
  a.snd.snd.fst.snd.fst), SV.val (Go.Value.int IntKind.i64 a.snd.snd.fst.snd.snd)]] ∧ I_1 (IntKind.i64.wrap (x_6.fst + (1 : Int)), ()) () ∧ μ_1 (IntKind.i64.wrap (x_6.fst + (1 :
  Int)), ()) () < μ_1 x_6 y_1) (∃ (h : (2 : Int) ≠ (0 : Int)), ∃ (h : (2 : Int) ≠ (0 : Int)), ∃ (h : IIII n x.fst (IntKind.i64.wrap ((IntKind.i64.wrap (IntKind.i64.wrap (a_7.fst +
  n) - (1 : Int))).tdiv (2 : Int))) (IntKind.i64.wrap ((IntKind.i64.wrap (IntKind.i64.wrap (a_8.fst + n) - (1 : Int))).tdiv (2 : Int)))), ∀ (a_11 : Int × Unit), a_11 = cellR n x.fst
  (IntKind.i64.wrap ((IntKind.i64.wrap (IntKind.i64.wrap (a_7.fst + n) - (1 : Int))).tdiv (2 : Int))) (IntKind.i64.wrap ((IntKind.i64.wrap (IntKind.i64.wrap (a_8.fst + n) - (1 :
  Int))).tdiv (2 : Int))) → ∀ (a_12 : Bool), a_12 = decide (a_11.fst ≥ (0 : Int)) → Br a_12 (∀ (a_13 : Bool), a_13 = (a_11.fst != c) → Br a_13 (post (a_11.fst, x_6.fst, ())) (HIs
  [HObj.box Md.rw (138 : Nat) [SV.val (Go.Value.int IntKind.i64 a_2.fst.fst), SV.val (Go.Value.int IntKind.i64 a_2.fst.snd.fst), SV.val (Go.Value.int IntKind.i64 a_2.fst.snd.snd)],
  HObj.box Md.rw (138 : Nat) [SV.val (Go.Value.int IntKind.i64 a.fst.fst), SV.val (Go.Value.int IntKind.i64 a.fst.snd.fst), SV.val (Go.Value.int IntKind.i64 a.fst.snd.snd)],
  HObj.box Md.rw (138 : Nat) [SV.val (Go.Value.int IntKind.i64 a.snd.fst.fst), SV.val (Go.Value.int IntKind.i64 a.snd.fst.snd.fst), SV.val (Go.Value.int IntKind.i64
  a.snd.fst.snd.snd)], HObj.box Md.rw (138 : Nat) [SV.val (Go.Value.int IntKind.i64 a.snd.snd.fst.fst), SV.val (Go.Value.int IntKind.i64 a.snd.snd.fst.snd.fst), SV.val (Go.Value.int
  IntKind.i64 a.snd.snd.fst.snd.snd)]] [HObj.box Md.rw (138 : Nat) [SV.val (Go.Value.int IntKind.i64 a_2.fst.fst), SV.val (Go.Value.int IntKind.i64 a_2.fst.snd.fst), SV.val
  (Go.Value.int IntKind.i64 a_2.fst.snd.snd)], HObj.box Md.rw (138 : Nat) [SV.val (Go.Value.int IntKind.i64 a.fst.fst), SV.val (Go.Value.int IntKind.i64 a.fst.snd.fst), SV.val
  (Go.Value.int IntKind.i64 a.fst.snd.snd)], HObj.box Md.rw (138 : Nat) [SV.val (Go.Value.int IntKind.i64 a.snd.fst.fst), SV.val (Go.Value.int IntKind.i64 a.snd.fst.snd.fst), SV.val
  (Go.Value.int IntKind.i64 a.snd.fst.snd.snd)], HObj.box Md.rw (138 : Nat) [SV.val (Go.Value.int IntKind.i64 a.snd.snd.fst.fst), SV.val (Go.Value.int IntKind.i64
  a.snd.snd.fst.snd.fst), SV.val (Go.Value.int IntKind.i64 a.snd.snd.fst.snd.snd)]] ∧ I_1 (IntKind.i64.wrap (x_6.fst + (1 : Int)), ()) () ∧ μ_1 (IntKind.i64.wrap (x_6.fst + (1 :
  Int)), ()) () < μ_1 x_6 y_1)) (HIs [HObj.box Md.rw (138 : Nat) [SV.val (Go.Value.int IntKind.i64 a_2.fst.fst), SV.val (Go.Value.int IntKind.i64 a_2.fst.snd.fst), SV.val
  (Go.Value.int IntKind.i64 a_2.fst.snd.snd)], HObj.box Md.rw (138 : Nat) [SV.val (Go.Value.int IntKind.i64 a.fst.fst), SV.val (Go.Value.int IntKind.i64 a.fst.snd.fst), SV.val
  (Go.Value.int IntKind.i64 a.fst.snd.snd)], HObj.box Md.rw (138 : Nat) [SV.val (Go.Value.int IntKind.i64 a.snd.fst.fst), SV.val (Go.Value.int IntKind.i64 a.snd.fst.snd.fst), SV.val
  (Go.Value.int IntKind.i64 a.snd.fst.snd.snd)], HObj.box Md.rw (138 : Nat) [SV.val (Go.Value.int IntKind.i64 a.snd.snd.fst.fst), SV.val (Go.Value.int IntKind.i64
  a.snd.snd.fst.snd.fst), SV.val (Go.Value.int IntKind.i64 a.snd.snd.fst.snd.snd)]] [HObj.box Md.rw (138 : Nat) [SV.val (Go.Value.int IntKind.i64 a_2.fst.fst), SV.val (Go.Value.int
  IntKind.i64 a_2.fst.snd.fst), SV.val (Go.Value.int IntKind.i64 a_2.fst.snd.snd)], HObj.box Md.rw (138 : Nat) [SV.val (Go.Value.int IntKind.i64 a.fst.fst), SV.val (Go.Value.int
  IntKind.i64 a.fst.snd.fst), SV.val (Go.Value.int IntKind.i64 a.fst.snd.snd)], HObj.box Md.rw (138 : Nat) [SV.val (Go.Value.int IntKind.i64 a.snd.fst.fst), SV.val (Go.Value.int
  IntKind.i64 a.snd.fst.snd.fst), SV.val (Go.Value.int IntKind.i64 a.snd.fst.snd.snd)], HObj.box Md.rw (138 : Nat) [SV.val (Go.Value.int IntKind.i64 a.snd.snd.fst.fst), SV.val
  (Go.Value.int IntKind.i64 a.snd.snd.fst.snd.fst), SV.val (Go.Value.int IntKind.i64 a.snd.snd.fst.snd.snd)]] ∧ I_1 (IntKind.i64.wrap (x_6.fst + (1 : Int)), ()) () ∧ μ_1
  (IntKind.i64.wrap (x_6.fst + (1 : Int)), ()) () < μ_1 x_6 y_1)))) (HIs [HObj.box Md.rw ty138 [SV.val (Go.Value.int IntKind.i64 a_2.fst.fst), SV.val (Go.Value.int IntKind.i64
  a_2.fst.snd.fst), SV.val (Go.Value.int IntKind.i64 a_2.fst.snd.snd)]] [HObj.box Md.rw ty138 [SV.val (Go.Value.int IntKind.i64 a_2.fst.fst), SV.val (Go.Value.int IntKind.i64
  a_2.fst.snd.fst), SV.val (Go.Value.int IntKind.i64 a_2.fst.snd.snd)]] ∧ I (IntKind.i64.wrap (x.fst + (1 : Int)), ()) () ∧ μ (IntKind.i64.wrap (x.fst + (1 : Int)), ()) () < μ x
  y))) (post ((-1 : Int), (0 : Int), ()))))))
theorem Lx_ref06_Beside (ty0 : Nat) (n : Int) (c : Int) (o : Int) (h : III n c o) : Fx_ref06_Beside ty0 n c o (fun r => r = besideR n c o) := by
  have no : besideOk n c o = false → ((-1 : Int), (0 : Int), ()) = besideR n c o := by
    intro q
    have : besideI n c o = (-1, 0) := by unfold besideI; rw [if_neg (by rw [q]; decide)]
    unfold besideR; rw [this]
  have nb : ∀ p : Prop, (besideOk n c o = true → p) → ¬ p → besideOk n c o = false := fun p hp hn => by
    cases q : besideOk n c o with
    | false => rfl
    | true => exact absurd (hp q) hn
  rintro _ rfl
  refine Br.intro (fun e => no (nb (0 ≤ c) (fun q => (place_cells (besideOk_iff.1 q).1).1) (by have := of_decide_eq_true e; omega))) fun e1 => ?_
  refine ⟨h.1, ?_⟩
  rintro _ rfl
  refine Br.intro (fun e => no (nb (c < cellsI n) (fun q => (place_cells (besideOk_iff.1 q).1).2) (by have : c ≥ cellsI n := of_decide_eq_true e; omega))) fun e2 => ?_
  rintro _ rfl
  refine Br.intro (fun e => no (nb (0 ≤ o) (fun q => (besideOk_iff.1 q).2.1) (by have := of_decide_eq_true e; omega))) fun e3 => ?_
  rintro _ rfl
  refine Br.intro (fun e => no (nb (o < 4) (fun q => (besideOk_iff.1 q).2.2) (by have := of_decide_eq_true e; omega))) fun e4 => ?_
  have e1 := of_decide_eq_false e1
  have e2 : ¬ c ≥ cellsI n := of_decide_eq_false e2
  have e3 := of_decide_eq_false e3
  have e4 := of_decide_eq_false e4
  have hp : placeOk n c = true := by unfold placeOk; rw [decide_eq_true (p := 0 ≤ c) (by omega), decide_eq_true (p := c < cellsI n) (by omega)]; rfl
  have ok : besideOk n c o = true := besideOk_iff.2 ⟨hp, by omega, by omega⟩
  have hm := place_mid hp
  obtain ⟨n1, n2, f0, f5, i0, i1, j0, j1⟩ := hm
  refine ⟨hp, ?_⟩
  rintro _ rfl
  refine ⟨hp, ?_⟩
  rintro _ rfl
  have bm := midP_bd (place_mid hp)
  have bd := dirP_bd (c / (n * n)) o
  refine ⟨⟨bm.mono (by decide), by decide, by decide, bd.mono (by decide)⟩, ?_⟩
  have be := plusP_bd bm bd (k := 1) (q := 1) (by decide) (by decide)
  have hQ : besideI n c o = (scanF n c (plusP (midP n (c / (n * n)) (c % n) (c / n % n)) 1 (dirP (c / (n * n)) o)) 6 0).getD (-1, 0) := by
    rw [← beside_same]; unfold besideQ; rw [if_pos ok]
  have hE : plusPR (midPR n c).1 1 (dirPR n c o).1 = (plusP (midP n (c / (n * n)) (c % n) (c / n % n)) 1 (dirP (c / (n * n)) o), ()) := rfl
  rw [hE]
  generalize plusP (midP n (c / (n * n)) (c % n) (c / n % n)) 1 (dirP (c / (n * n)) o) = e at *
  rintro _ rfl
  refine ⟨rfl, fun x _ => ∃ k : Nat, x.1 = k ∧ k ≤ 6 ∧ besideI n c o = (scanF n c e (6 - k) k).getD (-1, 0), fun x _ => 6 - x.1.toNat, ⟨0, rfl, by omega, hQ⟩, ?_⟩
  rintro ⟨_, ⟨⟩⟩ _ ⟨k, rfl, hk, hi⟩
  dsimp only
  rintro _ rfl
  refine Br.intro (fun g => ?_) fun g => ?_
  rotate_left
  · have g : k = 6 := by have g : ¬ (k : Int) < 6 := of_decide_eq_false g; omega
    subst g
    have hi : besideI n c o = (-1, 0) := hi
    unfold besideR; rw [hi]
  have g : k < 6 := by have g : (k : Int) < 6 := of_decide_eq_true g; omega
  obtain ⟨r, hr⟩ : ∃ r, 6 - k = r + 1 := ⟨5 - k, by omega⟩
  have hr' : 6 - (k + 1) = r := by omega
  rw [hr] at hi
  have hst : scanF n c e (r + 1) k = (valF n c e k).or (scanF n c e r (k + 1)) := by
    show (match valF n c e k with | some v => some v | none => scanF n c e r (k + 1)) = _
    cases valF n c e k <;> rfl
  rw [hst] at hi
  obtain ⟨b1, b2, b3⟩ := frameP_bd (k : Int)
  refine ⟨trivial, ?_⟩
  rintro _ rfl
  refine ⟨⟨be.mono (by decide), b1.mono (by decide)⟩, ?_⟩
  rintro _ rfl
  rw [wi_succ g (by omega)]
  rintro _ rfl
  refine Br.intro (fun q => ?_) fun q => ?_
  · have q : dotP e (frameP k).1 ≠ n := bne_iff_ne.1 q
    rw [val_off q] at hi
    exact ⟨rfl, ⟨k + 1, rfl, by omega, by rw [hr']; exact hi⟩, by omega⟩
  have q : dotP e (frameP k).1 = n := by
    have q : (dotP e (frameP k).1 != n) = false := q
    simpa using q
  have hv : valF n c e k = scanS n c k e 4 0 := by unfold valF; rw [if_pos q]
  rw [hv] at hi
  refine ⟨rfl, fun x _ => ∃ s : Nat, x.1 = s ∧ s ≤ 4 ∧ besideI n c o = ((scanS n c k e (4 - s) s).or (scanF n c e r (k + 1))).getD (-1, 0), fun x _ => 4 - x.1.toNat, ⟨0, rfl, by omega, hi⟩, ?_⟩
  clear hi hv
  rintro ⟨_, ⟨⟩⟩ _ ⟨s, rfl, hs, hi⟩
  dsimp only
  rintro _ rfl
  refine Br.intro (fun g2 => ?_) fun g2 => ?_
  rotate_left
  · have g2 : s = 4 := by have g2 : ¬ (s : Int) < 4 := of_decide_eq_false g2; omega
    subst g2
    exact ⟨rfl, ⟨k + 1, rfl, by omega, by rw [hr']; exact hi⟩, by omega⟩
  have g2 : s < 4 := by have g2 : (s : Int) < 4 := of_decide_eq_true g2; omega
  obtain ⟨r2, hr2⟩ : ∃ r2, 4 - s = r2 + 1 := ⟨3 - s, by omega⟩
  have hr2' : 4 - (s + 1) = r2 := by omega
  rw [hr2] at hi
  have hst2 : scanS n c k e (r2 + 1) s = (tryS n c k e s).or (scanS n c k e r2 (s + 1)) := by
    show (match tryS n c k e s with | some v => some v | none => scanS n c k e r2 (s + 1)) = _
    cases tryS n c k e s <;> rfl
  rw [hst2] at hi
  rw [wi_succ g2 (by omega)]
  have wm : ∀ (z : Int) (b : Pt), -1 ≤ z → z ≤ 1 → Bp 1 b → WPlusP e z b := fun z b h1 h2 hb => ⟨be.mono (by decide), by omega, by omega, hb.mono (by decide)⟩
  refine ⟨wm _ _ (by decide) (by decide) b2, ?_⟩
  rintro _ rfl
  refine ⟨fun x _ => (x.1, x.2.1, x.2.2.1) = if (s : Int) = 1 then plusP e (-1) (frameP k).2.2 else plusP e (-1) (frameP k).2.1, ?_, ?_⟩
  · rintro _ rfl
    refine Br.intro (fun y => ?_) fun y => ?_
    · refine ⟨wm _ _ (by decide) (by decide) b3, ?_⟩
      rintro _ rfl
      exact ⟨rfl, by rw [if_pos (beq_iff_eq.1 y)]; rfl⟩
    · exact ⟨rfl, by rw [if_neg (fun z => by rw [z] at y; cases y)]; rfl⟩
  rintro ⟨p1, p2, p3, ⟨⟩⟩ _ hp1
  refine ⟨fun x _ => (x.1, x.2.1, x.2.2.1) = if (s : Int) = 2 then plusP e 1 (frameP k).2.1 else (p1, p2, p3), ?_, ?_⟩
  · rintro _ rfl
    refine Br.intro (fun y => ?_) fun y => ?_
    · refine ⟨wm _ _ (by decide) (by decide) b2, ?_⟩
      rintro _ rfl
      exact ⟨rfl, by rw [if_pos (beq_iff_eq.1 y)]; rfl⟩
    · exact ⟨rfl, by rw [if_neg (fun z => by rw [z] at y; cases y)]⟩
  rintro ⟨q1, q2, q3, ⟨⟩⟩ _ hp2
  refine ⟨fun x _ => (x.1, x.2.1, x.2.2.1) = if (s : Int) = 3 then plusP e 1 (frameP k).2.2 else (q1, q2, q3), ?_, ?_⟩
  · rintro _ rfl
    refine Br.intro (fun y => ?_) fun y => ?_
    · refine ⟨wm _ _ (by decide) (by decide) b3, ?_⟩
      rintro _ rfl
      exact ⟨rfl, by rw [if_pos (beq_iff_eq.1 y)]; rfl⟩
    · exact ⟨rfl, by rw [if_neg (fun z => by rw [z] at y; cases y)]⟩
  rintro ⟨t1, t2, t3, ⟨⟩⟩ _ hp3
  have hM : (t1, t2, t3) = mP e (frameP k).2.1 (frameP k).2.2 s := by
    have hp1 : (p1, p2, p3) = _ := hp1
    have hp2 : (q1, q2, q3) = _ := hp2
    have hp3 : (t1, t2, t3) = _ := hp3
    unfold mP
    rw [hp3, hp2, hp1]
  have bM : Bp 98 (mP e (frameP k).2.1 (frameP k).2.2 s) := by
    unfold mP
    split
    · exact plusP_bd be b3 (q := 1) (by decide) (by decide)
    · split
      · exact plusP_bd be b2 (q := 1) (by decide) (by decide)
      · split
        · exact plusP_bd be b3 (q := 1) (by decide) (by decide)
        · exact plusP_bd be b2 (q := 1) (by decide) (by decide)
  dsimp only
  rw [hM]
  have dr := dotP_bd bM b2
  have du := dotP_bd bM b3
  refine ⟨⟨bM.mono (by decide), b2.mono (by decide)⟩, ?_⟩
  rintro _ rfl
  refine ⟨⟨bM.mono (by decide), b3.mono (by decide)⟩, ?_⟩
  rintro _ rfl
  have w1 : IntKind.i64.wrap (IntKind.i64.wrap ((dotPR (mP e (frameP k).2.1 (frameP k).2.2 s) ((framePR (k : Int)).2.1.1, (framePR (k : Int)).2.1.2.1, (framePR (k : Int)).2.1.2.2)).1 + n) - 1) = dotP (mP e (frameP k).2.1 (frameP k).2.2 s) (frameP k).2.1 + n - 1 := by
    show IntKind.i64.wrap (IntKind.i64.wrap (dotP (mP e (frameP k).2.1 (frameP k).2.2 s) (frameP k).2.1 + n) - 1) = _
    rw [wi (x := dotP (mP e (frameP k).2.1 (frameP k).2.2 s) (frameP k).2.1 + n) ⟨by omega, by omega⟩, wi ⟨by omega, by omega⟩]
  have w2 : IntKind.i64.wrap (IntKind.i64.wrap ((dotPR (mP e (frameP k).2.1 (frameP k).2.2 s) ((framePR (k : Int)).2.2.1.1, (framePR (k : Int)).2.2.1.2.1, (framePR (k : Int)).2.2.1.2.2)).1 + n) - 1) = dotP (mP e (frameP k).2.1 (frameP k).2.2 s) (frameP k).2.2 + n - 1 := by
    show IntKind.i64.wrap (IntKind.i64.wrap (dotP (mP e (frameP k).2.1 (frameP k).2.2 s) (frameP k).2.2 + n) - 1) = _
    rw [wi (x := dotP (mP e (frameP k).2.1 (frameP k).2.2 s) (frameP k).2.2 + n) ⟨by omega, by omega⟩, wi ⟨by omega, by omega⟩]
  have hT : tryS n c k e s = hitC c s (tryC n k (dotP (mP e (frameP k).2.1 (frameP k).2.2 s) (frameP k).2.1 + n - 1) (dotP (mP e (frameP k).2.1 (frameP k).2.2 s) (frameP k).2.2 + n - 1)) := rfl
  rw [hT] at hi
  rw [w1, w2]
  generalize dotP (mP e (frameP k).2.1 (frameP k).2.2 s) (frameP k).2.1 = Dr at *
  generalize dotP (mP e (frameP k).2.1 (frameP k).2.2 s) (frameP k).2.2 = Du at *
  obtain ⟨I0, hI0⟩ : ∃ I0, Dr + n - 1 = I0 := ⟨_, rfl⟩
  obtain ⟨J0, hJ0⟩ : ∃ J0, Du + n - 1 = J0 := ⟨_, rfl⟩
  rw [hI0, hJ0] at hi ⊢
  refine ⟨by decide, ?_⟩
  rintro _ rfl
  refine Br.intro (fun y => ?_) fun y => ?_
  · have y : Int.tmod I0 2 ≠ 0 := bne_iff_ne.1 y
    rw [show tryC n k I0 J0 = none from if_pos (Or.inl y), hit_none] at hi
    exact ⟨rfl, ⟨s + 1, rfl, by omega, by rw [hr2']; exact hi⟩, by omega⟩
  have y : Int.tmod I0 2 = 0 := by simpa using y
  refine ⟨by decide, ?_⟩
  rintro _ rfl
  refine Br.intro (fun y2 => ?_) fun y2 => ?_
  · have y2 : Int.tmod J0 2 ≠ 0 := bne_iff_ne.1 y2
    rw [show tryC n k I0 J0 = none from if_pos (Or.inr y2), hit_none] at hi
    exact ⟨rfl, ⟨s + 1, rfl, by omega, by rw [hr2']; exact hi⟩, by omega⟩
  have y2 : Int.tmod J0 2 = 0 := by simpa using y2
  rw [show tryC n k I0 J0 = some (cellI n k (Int.tdiv I0 2) (Int.tdiv J0 2)) from if_neg (by rintro (z | z); exact z y; exact z y2)] at hi
  have a1 : (Int.tdiv I0 2).natAbs ≤ I0.natAbs := by rw [Int.natAbs_tdiv]; exact Nat.div_le_self _ _
  have a2 : (Int.tdiv J0 2).natAbs ≤ J0.natAbs := by rw [Int.natAbs_tdiv]; exact Nat.div_le_self _ _
  rw [wi (x := Int.tdiv I0 2) ⟨by omega, by omega⟩, wi (x := Int.tdiv J0 2) ⟨by omega, by omega⟩]
  refine ⟨by decide, by decide, ⟨h.1, ⟨by omega, by omega⟩, ⟨by omega, by omega⟩, by omega, by omega⟩, ?_⟩
  rintro _ rfl
  obtain ⟨d, hd⟩ : ∃ d, cellI n k (Int.tdiv I0 2) (Int.tdiv J0 2) = d := ⟨_, rfl⟩
  have hc : cellR n k (Int.tdiv I0 2) (Int.tdiv J0 2) = (d, ()) := by rw [← hd]; rfl
  rw [hc]
  rw [hd] at hi
  rintro _ rfl
  refine Br.intro (fun z => ?_) fun z => ?_
  · have z : d ≥ 0 := of_decide_eq_true z
    rintro _ rfl
    refine Br.intro (fun y3 => ?_) fun y3 => ?_
    · have y3 : d ≠ c := bne_iff_ne.1 y3
      rw [show hitC c s (some d) = some (d, (s : Int)) from if_pos ⟨z, y3⟩] at hi
      have hi : besideI n c o = (d, (s : Int)) := hi
      unfold besideR; rw [hi]
    · have y3 : d = c := by simpa using y3
      rw [show hitC c s (some d) = none from if_neg fun w => w.2 y3] at hi
      exact ⟨rfl, ⟨s + 1, rfl, by omega, by rw [hr2']; exact hi⟩, by omega⟩
  · have z : ¬ d ≥ 0 := of_decide_eq_false z
    rw [show hitC c s (some d) = none from if_neg fun w => z w.1] at hi
    exact ⟨rfl, ⟨s + 1, rfl, by omega, by rw [hr2']; exact hi⟩, by omega⟩
end Go.Lift

set_option linter.unusedVariables false
set_option linter.unusedSimpArgs false
namespace Go.Lift
open Go.Proofs
def Rbx_ref06_plus : Cx := ⟨tabOf Rbtab, conOf [], RbG⟩
theorem Rbx_ref06_plus_ok : CxOk Tryz.prog Rbx_ref06_plus := ⟨tabB_sound Rbtab_ok, fun f c h => by cases h⟩
theorem Rbat_ref06_plus : FnAt Tryz.prog 102 Tryz.f102.ntmps Tryz.f102.results.toList (Tryz.f102.body.getD .skip) := ⟨Tryz.f102, Tryz.func102, rfl, rfl, by simp, by decide⟩
theorem Rbeq_ref06_plus (a : Int × Int × Int) (k : Int) (b : Int × Int × Int) (post : (Int × Int × Int) × Unit → Prop) : fnEval Rbx_ref06_plus nHn Tryz.f102.ntmps Tryz.f102.results.toList (Tryz.f102.body.getD .skip) [kPoint, .int .i64, kPoint] [.snap kPoint] (a, k, b, ()) post = Fx_ref06_plus  a k b post := by kernel_rfl
theorem Rbh_ref06_plus : Rbq_ref06_plus.holds Tryz.prog RbG 102 :=
  nam_of_det (detP Rbx_ref06_plus_ok Rbmixed nHn Rbat_ref06_plus (F := fun x post => Fx_ref06_plus  x.1 x.2.1 x.2.2.1 post) (fun x post => Rbeq_ref06_plus x.1 x.2.1 x.2.2.1 post) fun x h _ => Lx_ref06_plus  x.1 x.2.1 x.2.2.1 h)
def Rbx_ref06_dot : Cx := ⟨tabOf Rbtab, conOf [], RbG⟩
theorem Rbx_ref06_dot_ok : CxOk Tryz.prog Rbx_ref06_dot := ⟨tabB_sound Rbtab_ok, fun f c h => by cases h⟩
theorem Rbat_ref06_dot : FnAt Tryz.prog 106 Tryz.f106.ntmps Tryz.f106.results.toList (Tryz.f106.body.getD .skip) := ⟨Tryz.f106, Tryz.func106, rfl, rfl, by simp, by decide⟩
theorem Rbeq_ref06_dot (a : Int × Int × Int) (b : Int × Int × Int) (post : Int × Unit → Prop) : fnEval Rbx_ref06_dot nHn Tryz.f106.ntmps Tryz.f106.results.toList (Tryz.f106.body.getD .skip) [kPoint, kPoint] [.snap (.int .i64)] (a, b, ()) post = Fx_ref06_dot  a b post := by kernel_rfl
theorem Rbh_ref06_dot : Rbq_ref06_dot.holds Tryz.prog RbG 106 :=
  nam_of_det (detP Rbx_ref06_dot_ok Rbmixed nHn Rbat_ref06_dot (F := fun x post => Fx_ref06_dot  x.1 x.2.1 post) (fun x post => Rbeq_ref06_dot x.1 x.2.1 post) fun x h _ => Lx_ref06_dot  x.1 x.2.1 h)
def Rbx_ref06_frame : Cx := ⟨tabOf Rbtab, conOf [(102, Rbq_ref06_plus)], RbG⟩
theorem Rbx_ref06_frame_ok : CxOk Tryz.prog Rbx_ref06_frame := ⟨tabB_sound Rbtab_ok, conOf_sound ⟨Rbh_ref06_plus, trivial⟩⟩
theorem Rbat_ref06_frame : FnAt Tryz.prog 105 Tryz.f105.ntmps Tryz.f105.results.toList (Tryz.f105.body.getD .skip) := ⟨Tryz.f105, Tryz.func105, rfl, rfl, by simp, by decide⟩
theorem Rbeq_ref06_frame (f : Int) (post : (Int × Int × Int) × (Int × Int × Int) × (Int × Int × Int) × Unit → Prop) : fnEval Rbx_ref06_frame nHn Tryz.f105.ntmps Tryz.f105.results.toList (Tryz.f105.body.getD .skip) [.int .i64] [.snap kPoint, .snap kPoint, .snap kPoint] (f, ()) post = Fx_ref06_frame  f post := by kernel_rfl
theorem Rbh_ref06_frame : Rbq_ref06_frame.holds Tryz.prog RbG 105 :=
  nam_of_det (detP Rbx_ref06_frame_ok Rbmixed nHn Rbat_ref06_frame (F := fun x post => Fx_ref06_frame  x.1 post) (fun x post => Rbeq_ref06_frame x.1 post) fun x _ _ => Lx_ref06_frame  x.1)
def Rbx_ref06_Cell : Cx := ⟨tabOf Rbtab, conOf [(63, Rbq_ref06_Cells)], RbG⟩
theorem Rbx_ref06_Cell_ok : CxOk Tryz.prog Rbx_ref06_Cell := ⟨tabB_sound Rbtab_ok, conOf_sound ⟨Rbh_ref06_Cells, trivial⟩⟩
theorem Rbat_ref06_Cell : FnAt Tryz.prog 107 Tryz.f107.ntmps Tryz.f107.results.toList (Tryz.f107.body.getD .skip) := ⟨Tryz.f107, Tryz.func107, rfl, rfl, by simp, by decide⟩
theorem Rbeq_ref06_Cell (n : Int) (f : Int) (i : Int) (j : Int) (post : Int × Unit → Prop) : fnEval Rbx_ref06_Cell Rbhn_ref06_Cell Tryz.f107.ntmps Tryz.f107.results.toList (Tryz.f107.body.getD .skip) [.int .i64, .int .i64, .int .i64, .int .i64] [.snap (.int .i64)] (n, f, i, j, ()) post = Fx_ref06_Cell  n f i j post := by kernel_rfl
theorem Rbh_ref06_Cell : Rbq_ref06_Cell.holds Tryz.prog RbG 107 :=
  nam_of_det (detP Rbx_ref06_Cell_ok Rbmixed Rbhn_ref06_Cell Rbat_ref06_Cell (F := fun x post => Fx_ref06_Cell  x.1 x.2.1 x.2.2.1 x.2.2.2.1 post) (fun x post => Rbeq_ref06_Cell x.1 x.2.1 x.2.2.1 x.2.2.2.1 post) fun x h _ => Lx_ref06_Cell  x.1 x.2.1 x.2.2.1 x.2.2.2.1 h)
def Rbx_ref06_middle : Cx := ⟨tabOf Rbtab, conOf [(130, Rbq_ref06_Place), (105, Rbq_ref06_frame), (102, Rbq_ref06_plus)], RbG⟩
theorem Rbx_ref06_middle_ok : CxOk Tryz.prog Rbx_ref06_middle := ⟨tabB_sound Rbtab_ok, conOf_sound ⟨Rbh_ref06_Place, Rbh_ref06_frame, Rbh_ref06_plus, trivial⟩⟩
theorem Rbat_ref06_middle : FnAt Tryz.prog 103 Tryz.f103.ntmps Tryz.f103.results.toList (Tryz.f103.body.getD .skip) := ⟨Tryz.f103, Tryz.func103, rfl, rfl, by simp, by decide⟩
theorem Rbeq_ref06_middle (n : Int) (c : Int) (post : (Int × Int × Int) × Unit → Prop) : fnEval Rbx_ref06_middle nHn Tryz.f103.ntmps Tryz.f103.results.toList (Tryz.f103.body.getD .skip) [.int .i64, .int .i64] [.snap kPoint] (n, c, ()) post = Fx_ref06_middle  n c post := by kernel_rfl
theorem Rbh_ref06_middle : Rbq_ref06_middle.holds Tryz.prog RbG 103 :=
  nam_of_det (detP Rbx_ref06_middle_ok Rbmixed nHn Rbat_ref06_middle (F := fun x post => Fx_ref06_middle  x.1 x.2.1 post) (fun x post => Rbeq_ref06_middle x.1 x.2.1 post) fun x h _ => Lx_ref06_middle  x.1 x.2.1 h)
def Rbx_ref06_way : Cx := ⟨tabOf Rbtab, conOf [(130, Rbq_ref06_Place), (105, Rbq_ref06_frame), (102, Rbq_ref06_plus)], RbG⟩
theorem Rbx_ref06_way_ok : CxOk Tryz.prog Rbx_ref06_way := ⟨tabB_sound Rbtab_ok, conOf_sound ⟨Rbh_ref06_Place, Rbh_ref06_frame, Rbh_ref06_plus, trivial⟩⟩
theorem Rbat_ref06_way : FnAt Tryz.prog 104 Tryz.f104.ntmps Tryz.f104.results.toList (Tryz.f104.body.getD .skip) := ⟨Tryz.f104, Tryz.func104, rfl, rfl, by simp, by decide⟩
theorem Rbeq_ref06_way (n : Int) (c : Int) (o : Int) (post : (Int × Int × Int) × Unit → Prop) : fnEval Rbx_ref06_way nHn Tryz.f104.ntmps Tryz.f104.results.toList (Tryz.f104.body.getD .skip) [.int .i64, .int .i64, .int .i64] [.snap kPoint] (n, c, o, ()) post = Fx_ref06_way  n c o post := by kernel_rfl
theorem Rbh_ref06_way : Rbq_ref06_way.holds Tryz.prog RbG 104 :=
  nam_of_det (detP Rbx_ref06_way_ok Rbmixed nHn Rbat_ref06_way (F := fun x post => Fx_ref06_way  x.1 x.2.1 x.2.2.1 post) (fun x post => Rbeq_ref06_way x.1 x.2.1 x.2.2.1 post) fun x h _ => Lx_ref06_way  x.1 x.2.1 x.2.2.1 h)
def Rbx_ref06_Beside : Cx := ⟨tabOf Rbtab, conOf [(63, Rbq_ref06_Cells), (103, Rbq_ref06_middle), (104, Rbq_ref06_way), (102, Rbq_ref06_plus), (105, Rbq_ref06_frame), (106, Rbq_ref06_dot), (107, Rbq_ref06_Cell)], RbG⟩
theorem Rbx_ref06_Beside_ok : CxOk Tryz.prog Rbx_ref06_Beside := ⟨tabB_sound Rbtab_ok, conOf_sound ⟨Rbh_ref06_Cells, Rbh_ref06_middle, Rbh_ref06_way, Rbh_ref06_plus, Rbh_ref06_frame, Rbh_ref06_dot, Rbh_ref06_Cell, trivial⟩⟩
theorem Rbat_ref06_Beside : FnAt Tryz.prog 64 Tryz.f64.ntmps Tryz.f64.results.toList (Tryz.f64.body.getD .skip) := ⟨Tryz.f64, Tryz.func64, rfl, rfl, by simp, by decide⟩
theorem Rbeq_ref06_Beside (n : Int) (c : Int) (o : Int) (post : Int × Int × Unit → Prop) : fnEval Rbx_ref06_Beside Rbhn_ref06_Beside Tryz.f64.ntmps Tryz.f64.results.toList (Tryz.f64.body.getD .skip) [.int .i64, .int .i64, .int .i64] [.snap (.int .i64), .snap (.int .i64)] (n, c, o, ()) post = Fx_ref06_Beside 138 n c o post := by kernel_rfl
theorem Rbh_ref06_Beside : Rbq_ref06_Beside.holds Tryz.prog RbG 64 :=
  nam_of_det (detP Rbx_ref06_Beside_ok Rbmixed Rbhn_ref06_Beside Rbat_ref06_Beside (F := fun x post => Fx_ref06_Beside 138 x.1 x.2.1 x.2.2.1 post) (fun x post => Rbeq_ref06_Beside x.1 x.2.1 x.2.2.1 post) fun x h _ => Lx_ref06_Beside 138 x.1 x.2.1 x.2.2.1 h)
end Go.Lift

set_option linter.unusedVariables false
set_option linter.unusedSimpArgs false
namespace Go.Lift
open Go.Proofs
def Rbx_ref09_New : Cx := ⟨tabOf Rbtab, conOf [(63, Rbq_ref06_Cells), (64, Rbq_ref06_Beside)], RbG⟩
theorem Rbx_ref09_New_ok : CxOk Tryz.prog Rbx_ref09_New := ⟨tabB_sound Rbtab_ok, conOf_sound ⟨Rbh_ref06_Cells, Rbh_ref06_Beside, trivial⟩⟩
theorem Rbat_ref09_New : FnAt Tryz.prog 25 Tryz.f25.ntmps Tryz.f25.results.toList (Tryz.f25.body.getD .skip) := ⟨Tryz.f25, Tryz.func25, rfl, rfl, by simp, by decide⟩
theorem Rbeq_ref09_New (n : Int) (post : (Option (Int × (List (Int × Int × Int × Int)) × List Int)) × Int × Unit → Prop) : fnEval Rbx_ref09_New Rbhn_ref09_New Tryz.f25.ntmps Tryz.f25.results.toList (Tryz.f25.body.getD .skip) [.int .i64] [.snap (.ptr kRGrid), .snap (.int .i64)] (n, ()) post = Fx_ref09_New 3 95 n post := by kernel_rfl
theorem Rbh_ref09_New : Rbq_ref09_New.holds Tryz.prog RbG 25 :=
  nam_of_det (detP Rbx_ref09_New_ok Rbmixed Rbhn_ref09_New Rbat_ref09_New (F := fun x post => Fx_ref09_New 3 95 x.1 post) (fun x post => Rbeq_ref09_New x.1 post) fun x h _ => Lx_ref09_New 3 95 x.1 h)
def Rbx_ref09_Grid_Side : Cx := ⟨tabOf Rbtab, conOf [], RbG⟩
theorem Rbx_ref09_Grid_Side_ok : CxOk Tryz.prog Rbx_ref09_Grid_Side := ⟨tabB_sound Rbtab_ok, fun f c h => by cases h⟩
theorem Rbat_ref09_Grid_Side : FnAt Tryz.prog 77 Tryz.f77.ntmps Tryz.f77.results.toList (Tryz.f77.body.getD .skip) := ⟨Tryz.f77, Tryz.func77, rfl, rfl, by simp, by decide⟩
theorem Rbeq_ref09_Grid_Side_0  (post : Int × Unit → Prop) : fnEval Rbx_ref09_Grid_Side nHn Tryz.f77.ntmps Tryz.f77.results.toList (Tryz.f77.body.getD .skip) [.ptr kRGrid] [.snap (.int .i64)] (none, ()) post = Fx_ref09_Grid_Side_0   post := by kernel_rfl
theorem Rbeq_ref09_Grid_Side_1 (g : Int × (List (Int × Int × Int × Int)) × List Int) (post : Int × Unit → Prop) : fnEval Rbx_ref09_Grid_Side nHn Tryz.f77.ntmps Tryz.f77.results.toList (Tryz.f77.body.getD .skip) [.ptr kRGrid] [.snap (.int .i64)] ((some g), ()) post = Fx_ref09_Grid_Side_1  g post := by kernel_rfl
def RbF_ref09_Grid_Side (x : KS [.ptr kRGrid]) (post : RS [.snap (.int .i64)] → Prop) : Prop := match x with
  | (none, y) => Fx_ref09_Grid_Side_0   post
  | (some g, y) => Fx_ref09_Grid_Side_1  g post
theorem Rbh_ref09_Grid_Side : Rbq_ref09_Grid_Side.holds Tryz.prog RbG 77 :=
  detP Rbx_ref09_Grid_Side_ok Rbmixed nHn Rbat_ref09_Grid_Side (F := RbF_ref09_Grid_Side) (fun x post => match x with
    | (none, y) => Rbeq_ref09_Grid_Side_0  post
    | (some g, y) => Rbeq_ref09_Grid_Side_1 g post) fun x h w => match x, h, w with
    | (none, y), h, w => Lx_ref09_Grid_Side_0   w
    | (some g, y), h, w => Lx_ref09_Grid_Side_1  g w
def Rbx_ref09_Grid_Cells : Cx := ⟨tabOf Rbtab, conOf [(77, Rbq_ref09_Grid_Side), (63, Rbq_ref06_Cells)], RbG⟩
theorem Rbx_ref09_Grid_Cells_ok : CxOk Tryz.prog Rbx_ref09_Grid_Cells := ⟨tabB_sound Rbtab_ok, conOf_sound ⟨Rbh_ref09_Grid_Side, Rbh_ref06_Cells, trivial⟩⟩
theorem Rbat_ref09_Grid_Cells : FnAt Tryz.prog 76 Tryz.f76.ntmps Tryz.f76.results.toList (Tryz.f76.body.getD .skip) := ⟨Tryz.f76, Tryz.func76, rfl, rfl, by simp, by decide⟩
theorem Rbeq_ref09_Grid_Cells_0  (post : Int × Unit → Prop) : fnEval Rbx_ref09_Grid_Cells nHn Tryz.f76.ntmps Tryz.f76.results.toList (Tryz.f76.body.getD .skip) [.ptr kRGrid] [.snap (.int .i64)] (none, ()) post = Fx_ref09_Grid_Cells_0   post := by kernel_rfl
theorem Rbeq_ref09_Grid_Cells_1 (g : Int × (List (Int × Int × Int × Int)) × List Int) (post : Int × Unit → Prop) : fnEval Rbx_ref09_Grid_Cells nHn Tryz.f76.ntmps Tryz.f76.results.toList (Tryz.f76.body.getD .skip) [.ptr kRGrid] [.snap (.int .i64)] ((some g), ()) post = Fx_ref09_Grid_Cells_1  g post := by kernel_rfl
def RbF_ref09_Grid_Cells (x : KS [.ptr kRGrid]) (post : RS [.snap (.int .i64)] → Prop) : Prop := match x with
  | (none, y) => Fx_ref09_Grid_Cells_0   post
  | (some g, y) => Fx_ref09_Grid_Cells_1  g post
theorem Rbh_ref09_Grid_Cells : Rbq_ref09_Grid_Cells.holds Tryz.prog RbG 76 :=
  detP Rbx_ref09_Grid_Cells_ok Rbmixed nHn Rbat_ref09_Grid_Cells (F := RbF_ref09_Grid_Cells) (fun x post => match x with
    | (none, y) => Rbeq_ref09_Grid_Cells_0  post
    | (some g, y) => Rbeq_ref09_Grid_Cells_1 g post) fun x h w => match x, h, w with
    | (none, y), h, w => Lx_ref09_Grid_Cells_0   h w
    | (some g, y), h, w => Lx_ref09_Grid_Cells_1  g h w
def Rbx_ref09_Grid_Edges : Cx := ⟨tabOf Rbtab, conOf [], RbG⟩
theorem Rbx_ref09_Grid_Edges_ok : CxOk Tryz.prog Rbx_ref09_Grid_Edges := ⟨tabB_sound Rbtab_ok, fun f c h => by cases h⟩
theorem Rbat_ref09_Grid_Edges : FnAt Tryz.prog 93 Tryz.f93.ntmps Tryz.f93.results.toList (Tryz.f93.body.getD .skip) := ⟨Tryz.f93, Tryz.func93, rfl, rfl, by simp, by decide⟩
theorem Rbeq_ref09_Grid_Edges_0  (post : Int × Unit → Prop) : fnEval Rbx_ref09_Grid_Edges nHn Tryz.f93.ntmps Tryz.f93.results.toList (Tryz.f93.body.getD .skip) [.ptr kRGrid] [.snap (.int .i64)] (none, ()) post = Fx_ref09_Grid_Edges_0   post := by kernel_rfl
theorem Rbeq_ref09_Grid_Edges_1 (g : Int × (List (Int × Int × Int × Int)) × List Int) (post : Int × Unit → Prop) : fnEval Rbx_ref09_Grid_Edges nHn Tryz.f93.ntmps Tryz.f93.results.toList (Tryz.f93.body.getD .skip) [.ptr kRGrid] [.snap (.int .i64)] ((some g), ()) post = Fx_ref09_Grid_Edges_1  g post := by kernel_rfl
def RbF_ref09_Grid_Edges (x : KS [.ptr kRGrid]) (post : RS [.snap (.int .i64)] → Prop) : Prop := match x with
  | (none, y) => Fx_ref09_Grid_Edges_0   post
  | (some g, y) => Fx_ref09_Grid_Edges_1  g post
theorem Rbh_ref09_Grid_Edges : Rbq_ref09_Grid_Edges.holds Tryz.prog RbG 93 :=
  detP Rbx_ref09_Grid_Edges_ok Rbmixed nHn Rbat_ref09_Grid_Edges (F := RbF_ref09_Grid_Edges) (fun x post => match x with
    | (none, y) => Rbeq_ref09_Grid_Edges_0  post
    | (some g, y) => Rbeq_ref09_Grid_Edges_1 g post) fun x h w => match x, h, w with
    | (none, y), h, w => Lx_ref09_Grid_Edges_0   w
    | (some g, y), h, w => Lx_ref09_Grid_Edges_1  g w
def Rbx_ref09_Grid_Around : Cx := ⟨tabOf Rbtab, conOf [(76, Rbq_ref09_Grid_Cells)], RbG⟩
theorem Rbx_ref09_Grid_Around_ok : CxOk Tryz.prog Rbx_ref09_Grid_Around := ⟨tabB_sound Rbtab_ok, conOf_sound ⟨Rbh_ref09_Grid_Cells, trivial⟩⟩
theorem Rbat_ref09_Grid_Around : FnAt Tryz.prog 50 Tryz.f50.ntmps Tryz.f50.results.toList (Tryz.f50.body.getD .skip) := ⟨Tryz.f50, Tryz.func50, rfl, rfl, by simp, by decide⟩
theorem Rbeq_ref09_Grid_Around_0 (c : Int) (o : Int) (post : Int × Int × Unit → Prop) : fnEval Rbx_ref09_Grid_Around Rbhn_ref09_Grid_Around Tryz.f50.ntmps Tryz.f50.results.toList (Tryz.f50.body.getD .skip) [.ptr kRGrid, .int .i64, .int .i64] [.snap (.int .i64), .snap (.int .i64)] (none, c, o, ()) post = Fx_ref09_Grid_Around_0  c o post := by kernel_rfl
theorem Rbeq_ref09_Grid_Around_1 (g : Int × (List (Int × Int × Int × Int)) × List Int) (c : Int) (o : Int) (post : Int × Int × Unit → Prop) : fnEval Rbx_ref09_Grid_Around Rbhn_ref09_Grid_Around Tryz.f50.ntmps Tryz.f50.results.toList (Tryz.f50.body.getD .skip) [.ptr kRGrid, .int .i64, .int .i64] [.snap (.int .i64), .snap (.int .i64)] ((some g), c, o, ()) post = Fx_ref09_Grid_Around_1  g c o post := by kernel_rfl
def RbF_ref09_Grid_Around (x : KS [.ptr kRGrid, .int .i64, .int .i64]) (post : RS [.snap (.int .i64), .snap (.int .i64)] → Prop) : Prop := match x with
  | (none, y) => Fx_ref09_Grid_Around_0  y.1 y.2.1 post
  | (some g, y) => Fx_ref09_Grid_Around_1  g y.1 y.2.1 post
theorem Rbh_ref09_Grid_Around : Rbq_ref09_Grid_Around.holds Tryz.prog RbG 50 :=
  nam_of_det (detP Rbx_ref09_Grid_Around_ok Rbmixed Rbhn_ref09_Grid_Around Rbat_ref09_Grid_Around (F := RbF_ref09_Grid_Around) (fun x post => match x with
    | (none, y) => Rbeq_ref09_Grid_Around_0 y.1 y.2.1 post
    | (some g, y) => Rbeq_ref09_Grid_Around_1 g y.1 y.2.1 post) fun x h w => match x, h, w with
    | (none, y), h, w => Lx_ref09_Grid_Around_0  y.1 y.2.1 h w
    | (some g, y), h, w => Lx_ref09_Grid_Around_1  g y.1 y.2.1 h w)
end Go.Lift
