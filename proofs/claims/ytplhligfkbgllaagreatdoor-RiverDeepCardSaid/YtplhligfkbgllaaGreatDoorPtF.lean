/- A part of the proof of RiverDeepCard: an own lifter of code into plain terms, and plain laws. -/
import Derived.Test.YtplhligfkbgllaaGreatDoorPtE
set_option linter.unusedVariables false
set_option linter.unusedSimpArgs false
set_option linter.unusedSectionVars false
set_option linter.unusedVariables false
set_option linter.unusedSimpArgs false
namespace Go.Lift
def Fx_geom_ratio := fun (a b : Int) (post : Nat × Unit → Prop) => ∀ (a_1 : Nat), FRes Go.FloatKind.f64 (Go.FloatKind.f64.format.div (Go.FloatKind.f64.nearest a)
  (Go.FloatKind.f64.nearest b)) a_1 → post (a_1, ())
theorem Lx_geom_ratio (a : Int) (b : Int) (h : WRatio a b) : Fx_geom_ratio  a b (fun r => r = ratioR a b) := by
  intro r hr
  exact congrArg r1 (div_ofI h.1 h.2.1 h.2.2 hr)
def Fx_geom_point := fun (ty72 ty98 : Nat) (f : Int) (s t : Nat) (post : (Nat × Nat × Nat) × Unit → Prop) => ∃ (post_1 : Unit → List Nat × Unit → Prop), (∃ (h : (0 : Int) ≤ (0 :
  Int) ∧ (0 : Int) < (↑(3 : Nat) : Int)), ∃ (h : (0 : Int) ≤ f ∧ f < (↑(6 : Nat) : Int)), ∃ (h : (0 : Int) ≤ (0 : Int) ∧ (0 : Int) < (↑(3 : Nat) : Int)), ∃ (h : (0 : Int) ≤ (0 :
  Int) ∧ (0 : Int) < (↑(3 : Nat) : Int)), Br (List.getD (List.getD (framesL.getD f.toNat (K.arr (3 : Nat) (K.arr (3 : Nat) (K.int IntKind.i64))).dflt) (Int.toNat (0 : Int)) (K.arr
  (3 : Nat) (K.int IntKind.i64)).dflt) (Int.toNat (0 : Int)) (0 : Int) == (1 : Int)) (∃ (h : True), ∃ (h : (0 : Int) ≤ (0 : Int) ∧ (0 : Int) < (↑(3 : Nat) : Int) ∧ (3 : Nat) ≤
  (List.replicate (3 : Nat) (0 : Nat)).length), HIs [HObj.box Md.rw ty72 [SV.val (Go.Value.float Go.FloatKind.f64 (0 : Nat)), SV.val (Go.Value.float Go.FloatKind.f64 (0 : Nat)),
  SV.val (Go.Value.float Go.FloatKind.f64 (0 : Nat))], HObj.row Md.rw ty98 (K.flt Go.FloatKind.f64) ((List.replicate (3 : Nat) (0 : Nat)).set (Int.toNat (0 : Int)) (canonR
  ([(4607182418800017408 : Nat), s, t].getD (Int.toNat (0 : Int)) (0 : Nat))).fst)] [HObj.box Md.rw ty72 [SV.val (Go.Value.float Go.FloatKind.f64 (0 : Nat)), SV.val (Go.Value.float
  Go.FloatKind.f64 (0 : Nat)), SV.val (Go.Value.float Go.FloatKind.f64 (0 : Nat))], HObj.row Md.rw ty98 (K.flt Go.FloatKind.f64) ((List.replicate (3 : Nat) (0 : Nat)).set (Int.toNat
  (0 : Int)) (canonR ([(4607182418800017408 : Nat), s, t].getD (Int.toNat (0 : Int)) (0 : Nat))).fst)] ∧ post_1 () ((List.replicate (3 : Nat) (0 : Nat)).set (Int.toNat (0 : Int))
  (canonR ([(4607182418800017408 : Nat), s, t].getD (Int.toNat (0 : Int)) (0 : Nat))).fst, ())) (Br (List.getD (List.getD (framesL.getD f.toNat (K.arr (3 : Nat) (K.arr (3 : Nat)
  (K.int IntKind.i64))).dflt) (Int.toNat (0 : Int)) (K.arr (3 : Nat) (K.int IntKind.i64)).dflt) (Int.toNat (0 : Int)) (0 : Int) == (-1 : Int)) (∃ (h : True), ∃ (h : (0 : Int) ≤ (0 :
  Int) ∧ (0 : Int) < (↑(3 : Nat) : Int) ∧ (3 : Nat) ≤ (List.replicate (3 : Nat) (0 : Nat)).length), HIs [HObj.box Md.rw ty72 [SV.val (Go.Value.float Go.FloatKind.f64 (0 : Nat)),
  SV.val (Go.Value.float Go.FloatKind.f64 (0 : Nat)), SV.val (Go.Value.float Go.FloatKind.f64 (0 : Nat))], HObj.row Md.rw ty98 (K.flt Go.FloatKind.f64) ((List.replicate (3 : Nat) (0
  : Nat)).set (Int.toNat (0 : Int)) (canonR (Go.Op.negFloat Go.FloatKind.f64 ([(4607182418800017408 : Nat), s, t].getD (Int.toNat (0 : Int)) (0 : Nat)))).fst)] [HObj.box Md.rw ty72
  [SV.val (Go.Value.float Go.FloatKind.f64 (0 : Nat)), SV.val (Go.Value.float Go.FloatKind.f64 (0 : Nat)), SV.val (Go.Value.float Go.FloatKind.f64 (0 : Nat))], HObj.row Md.rw ty98
  (K.flt Go.FloatKind.f64) ((List.replicate (3 : Nat) (0 : Nat)).set (Int.toNat (0 : Int)) (canonR (Go.Op.negFloat Go.FloatKind.f64 ([(4607182418800017408 : Nat), s, t].getD
  (Int.toNat (0 : Int)) (0 : Nat)))).fst)] ∧ post_1 () ((List.replicate (3 : Nat) (0 : Nat)).set (Int.toNat (0 : Int)) (canonR (Go.Op.negFloat Go.FloatKind.f64
  ([(4607182418800017408 : Nat), s, t].getD (Int.toNat (0 : Int)) (0 : Nat)))).fst, ())) (HIs [HObj.box Md.rw ty72 [SV.val (Go.Value.float Go.FloatKind.f64 (0 : Nat)), SV.val
  (Go.Value.float Go.FloatKind.f64 (0 : Nat)), SV.val (Go.Value.float Go.FloatKind.f64 (0 : Nat))], HObj.row Md.rw ty98 (K.flt Go.FloatKind.f64) (List.replicate (3 : Nat) (0 :
  Nat))] [HObj.box Md.rw ty72 [SV.val (Go.Value.float Go.FloatKind.f64 (0 : Nat)), SV.val (Go.Value.float Go.FloatKind.f64 (0 : Nat)), SV.val (Go.Value.float Go.FloatKind.f64 (0 :
  Nat))], HObj.row Md.rw ty98 (K.flt Go.FloatKind.f64) (List.replicate (3 : Nat) (0 : Nat))] ∧ post_1 () (List.replicate (3 : Nat) (0 : Nat), ())))) ∧ ∀ (x : Unit) (y : List Nat ×
  Unit), post_1 x y → ∃ (post_2 : Unit → List Nat × Unit → Prop), (∃ (h : (0 : Int) ≤ IntKind.i64.wrap ((0 : Int) + (1 : Int)) ∧ IntKind.i64.wrap ((0 : Int) + (1 : Int)) < (↑(3 :
  Nat) : Int)), ∃ (h : (0 : Int) ≤ f ∧ f < (↑(6 : Nat) : Int)), ∃ (h : (0 : Int) ≤ IntKind.i64.wrap ((0 : Int) + (1 : Int)) ∧ IntKind.i64.wrap ((0 : Int) + (1 : Int)) < (↑(3 : Nat)
  : Int)), ∃ (h : (0 : Int) ≤ (0 : Int) ∧ (0 : Int) < (↑(3 : Nat) : Int)), Br (List.getD (List.getD (framesL.getD f.toNat (K.arr (3 : Nat) (K.arr (3 : Nat) (K.int
  IntKind.i64))).dflt) (IntKind.i64.wrap ((0 : Int) + (1 : Int))).toNat (K.arr (3 : Nat) (K.int IntKind.i64)).dflt) (Int.toNat (0 : Int)) (0 : Int) == (1 : Int)) (∃ (h : True), ∃ (h
  : (0 : Int) ≤ (0 : Int) ∧ (0 : Int) < (↑(3 : Nat) : Int) ∧ (3 : Nat) ≤ y.fst.length), HIs [HObj.box Md.rw ty72 [SV.val (Go.Value.float Go.FloatKind.f64 (0 : Nat)), SV.val
  (Go.Value.float Go.FloatKind.f64 (0 : Nat)), SV.val (Go.Value.float Go.FloatKind.f64 (0 : Nat))], HObj.row Md.rw ty98 (K.flt Go.FloatKind.f64) (y.fst.set (Int.toNat (0 : Int))
  (canonR ([(4607182418800017408 : Nat), s, t].getD (IntKind.i64.wrap ((0 : Int) + (1 : Int))).toNat (0 : Nat))).fst)] [HObj.box Md.rw ty72 [SV.val (Go.Value.float Go.FloatKind.f64
  (0 : Nat)), SV.val (Go.Value.float Go.FloatKind.f64 (0 : Nat)), SV.val (Go.Value.float Go.FloatKind.f64 (0 : Nat))], HObj.row Md.rw ty98 (K.flt Go.FloatKind.f64) (y.fst.set
  (Int.toNat (0 : Int)) (canonR ([(4607182418800017408 : Nat), s, t].getD (IntKind.i64.wrap ((0 : Int) + (1 : Int))).toNat (0 : Nat))).fst)] ∧ post_2 () (y.fst.set (Int.toNat (0 :
  Int)) (canonR ([(4607182418800017408 : Nat), s, t].getD (IntKind.i64.wrap ((0 : Int) + (1 : Int))).toNat (0 : Nat))).fst, ())) (Br (List.getD (List.getD (framesL.getD f.toNat
  (K.arr (3 : Nat) (K.arr (3 : Nat) (K.int IntKind.i64))).dflt) (IntKind.i64.wrap ((0 : Int) + (1 : Int))).toNat (K.arr (3 : Nat) (K.int IntKind.i64)).dflt) (Int.toNat (0 : Int)) (0
  : Int) == (-1 : Int)) (∃ (h : True), ∃ (h : (0 : Int) ≤ (0 : Int) ∧ (0 : Int) < (↑(3 : Nat) : Int) ∧ (3 : Nat) ≤ y.fst.length), HIs [HObj.box Md.rw ty72 [SV.val (Go.Value.float
  Go.FloatKind.f64 (0 : Nat)), SV.val (Go.Value.float Go.FloatKind.f64 (0 : Nat)), SV.val (Go.Value.float Go.FloatKind.f64 (0 : Nat))], HObj.row Md.rw ty98 (K.flt Go.FloatKind.f64)
  (y.fst.set (Int.toNat (0 : Int)) (canonR (Go.Op.negFloat Go.FloatKind.f64 ([(4607182418800017408 : Nat), s, t].getD (IntKind.i64.wrap ((0 : Int) + (1 : Int))).toNat (0 :
  Nat)))).fst)] [HObj.box Md.rw ty72 [SV.val (Go.Value.float Go.FloatKind.f64 (0 : Nat)), SV.val (Go.Value.float Go.FloatKind.f64 (0 : Nat)), SV.val (Go.Value.float Go.FloatKind.f64
  (0 : Nat))], HObj.row Md.rw ty98 (K.flt Go.FloatKind.f64) (y.fst.set (Int.toNat (0 : Int)) (canonR (Go.Op.negFloat Go.FloatKind.f64 ([(4607182418800017408 : Nat), s, t].getD
  (IntKind.i64.wrap ((0 : Int) + (1 : Int))).toNat (0 : Nat)))).fst)] ∧ post_2 () (y.fst.set (Int.toNat (0 : Int)) (canonR (Go.Op.negFloat Go.FloatKind.f64 ([(4607182418800017408 :
  Nat), s, t].getD (IntKind.i64.wrap ((0 : Int) + (1 : Int))).toNat (0 : Nat)))).fst, ())) (HIs [HObj.box Md.rw ty72 [SV.val (Go.Value.float Go.FloatKind.f64 (0 : Nat)), SV.val
  (Go.Value.float Go.FloatKind.f64 (0 : Nat)), SV.val (Go.Value.float Go.FloatKind.f64 (0 : Nat))], HObj.row Md.rw ty98 (K.flt Go.FloatKind.f64) y.fst] [HObj.box Md.rw ty72 [SV.val
  (Go.Value.float Go.FloatKind.f64 (0 : Nat)), SV.val (Go.Value.float Go.FloatKind.f64 (0 : Nat)), SV.val (Go.Value.float Go.FloatKind.f64 (0 : Nat))], HObj.row Md.rw ty98 (K.flt
  Go.FloatKind.f64) y.fst] ∧ post_2 () (y.fst, ())))) ∧ ∀ (x : Unit) (y : List Nat × Unit), post_2 x y → ∃ (post_3 : Unit → List Nat × Unit → Prop), (∃ (h : (0 : Int) ≤
  IntKind.i64.wrap (IntKind.i64.wrap ((0 : Int) + (1 : Int)) + (1 : Int)) ∧ IntKind.i64.wrap (IntKind.i64.wrap ((0 : Int) + (1 : Int)) + (1 : Int)) < (↑(3 : Nat) : Int)), ∃ (h : (0
  : Int) ≤ f ∧ f < (↑(6 : Nat) : Int)), ∃ (h : (0 : Int) ≤ IntKind.i64.wrap (IntKind.i64.wrap ((0 : Int) + (1 : Int)) + (1 : Int)) ∧ IntKind.i64.wrap (IntKind.i64.wrap ((0 : Int) +
  (1 : Int)) + (1 : Int)) < (↑(3 : Nat) : Int)), ∃ (h : (0 : Int) ≤ (0 : Int) ∧ (0 : Int) < (↑(3 : Nat) : Int)), Br (List.getD (List.getD (framesL.getD f.toNat (K.arr (3 : Nat)
  (K.arr (3 : Nat) (K.int IntKind.i64))).dflt) (IntKind.i64.wrap (IntKind.i64.wrap ((0 : Int) + (1 : Int)) + (1 : Int))).toNat (K.arr (3 : Nat) (K.int IntKind.i64)).dflt) (Int.toNat
  (0 : Int)) (0 : Int) == (1 : Int)) (∃ (h : True), ∃ (h : (0 : Int) ≤ (0 : Int) ∧ (0 : Int) < (↑(3 : Nat) : Int) ∧ (3 : Nat) ≤ y.fst.length), HIs [HObj.box Md.rw ty72 [SV.val
  (Go.Value.float Go.FloatKind.f64 (0 : Nat)), SV.val (Go.Value.float Go.FloatKind.f64 (0 : Nat)), SV.val (Go.Value.float Go.FloatKind.f64 (0 : Nat))], HObj.row Md.rw ty98 (K.flt
  Go.FloatKind.f64) (y.fst.set (Int.toNat (0 : Int)) (canonR ([(4607182418800017408 : Nat), s, t].getD (IntKind.i64.wrap (IntKind.i64.wrap ((0 : Int) + (1 : Int)) + (1 :
  Int))).toNat (0 : Nat))).fst)] [HObj.box Md.rw ty72 [SV.val (Go.Value.float Go.FloatKind.f64 (0 : Nat)), SV.val (Go.Value.float Go.FloatKind.f64 (0 : Nat)), SV.val (Go.Value.float
  Go.FloatKind.f64 (0 : Nat))], HObj.row Md.rw ty98 (K.flt Go.FloatKind.f64) (y.fst.set (Int.toNat (0 : Int)) (canonR ([(4607182418800017408 : Nat), s, t].getD (IntKind.i64.wrap
  (IntKind.i64.wrap ((0 : Int) + (1 : Int)) + (1 : Int))).toNat (0 : Nat))).fst)] ∧ post_3 () (y.fst.set (Int.toNat (0 : Int)) (canonR ([(4607182418800017408 : Nat), s, t].getD
  (IntKind.i64.wrap (IntKind.i64.wrap ((0 : Int) + (1 : Int)) + (1 : Int))).toNat (0 : Nat))).fst, ())) (Br (List.getD (List.getD (framesL.getD f.toNat (K.arr (3 : Nat) (K.arr (3 :
  Nat) (K.int IntKind.i64))).dflt) (IntKind.i64.wrap (IntKind.i64.wrap ((0 : Int) + (1 : Int)) + (1 : Int))).toNat (K.arr (3 : Nat) (K.int IntKind.i64)).dflt) (Int.toNat (0 : Int))
  (0 : Int) == (-1 : Int)) (∃ (h : True), ∃ (h : (0 : Int) ≤ (0 : Int) ∧ (0 : Int) < (↑(3 : Nat) : Int) ∧ (3 : Nat) ≤ y.fst.length), HIs [HObj.box Md.rw ty72 [SV.val (Go.Value.float
  Go.FloatKind.f64 (0 : Nat)), SV.val (Go.Value.float Go.FloatKind.f64 (0 : Nat)), SV.val (Go.Value.float Go.FloatKind.f64 (0 : Nat))], HObj.row Md.rw ty98 (K.flt Go.FloatKind.f64)
  (y.fst.set (Int.toNat (0 : Int)) (canonR (Go.Op.negFloat Go.FloatKind.f64 ([(4607182418800017408 : Nat), s, t].getD (IntKind.i64.wrap (IntKind.i64.wrap ((0 : Int) + (1 : Int)) +
  (1 : Int))).toNat (0 : Nat)))).fst)] [HObj.box Md.rw ty72 [SV.val (Go.Value.float Go.FloatKind.f64 (0 : Nat)), SV.val (Go.Value.float Go.FloatKind.f64 (0 : Nat)), SV.val
  (Go.Value.float Go.FloatKind.f64 (0 : Nat))], HObj.row Md.rw ty98 (K.flt Go.FloatKind.f64) (y.fst.set (Int.toNat (0 : Int)) (canonR (Go.Op.negFloat Go.FloatKind.f64
  ([(4607182418800017408 : Nat), s, t].getD (IntKind.i64.wrap (IntKind.i64.wrap ((0 : Int) + (1 : Int)) + (1 : Int))).toNat (0 : Nat)))).fst)] ∧ post_3 () (y.fst.set (Int.toNat (0 :
  Int)) (canonR (Go.Op.negFloat Go.FloatKind.f64 ([(4607182418800017408 : Nat), s, t].getD (IntKind.i64.wrap (IntKind.i64.wrap ((0 : Int) + (1 : Int)) + (1 : Int))).toNat (0 :
  Nat)))).fst, ())) (HIs [HObj.box Md.rw ty72 [SV.val (Go.Value.float Go.FloatKind.f64 (0 : Nat)), SV.val (Go.Value.float Go.FloatKind.f64 (0 : Nat)), SV.val (Go.Value.float
  Go.FloatKind.f64 (0 : Nat))], HObj.row Md.rw ty98 (K.flt Go.FloatKind.f64) y.fst] [HObj.box Md.rw ty72 [SV.val (Go.Value.float Go.FloatKind.f64 (0 : Nat)), SV.val (Go.Value.float
  Go.FloatKind.f64 (0 : Nat)), SV.val (Go.Value.float Go.FloatKind.f64 (0 : Nat))], HObj.row Md.rw ty98 (K.flt Go.FloatKind.f64) y.fst] ∧ post_3 () (y.fst, ())))) ∧ ∀ (x : Unit) (y
  : List Nat × Unit), post_3 x y → ∃ (post_4 : Unit → List Nat × Unit → Prop), (∃ (h : (0 : Int) ≤ (0 : Int) ∧ (0 : Int) < (↑(3 : Nat) : Int)), ∃ (h : (0 : Int) ≤ f ∧ f < (↑(6 :
  Nat) : Int)), ∃ (h : (0 : Int) ≤ (0 : Int) ∧ (0 : Int) < (↑(3 : Nat) : Int)), ∃ (h : (0 : Int) ≤ IntKind.i64.wrap ((0 : Int) + (1 : Int)) ∧ IntKind.i64.wrap ((0 : Int) + (1 :
  Int)) < (↑(3 : Nat) : Int)), Br (List.getD (List.getD (framesL.getD f.toNat (K.arr (3 : Nat) (K.arr (3 : Nat) (K.int IntKind.i64))).dflt) (Int.toNat (0 : Int)) (K.arr (3 : Nat)
  (K.int IntKind.i64)).dflt) (IntKind.i64.wrap ((0 : Int) + (1 : Int))).toNat (0 : Int) == (1 : Int)) (∃ (h : True), ∃ (h : (0 : Int) ≤ IntKind.i64.wrap ((0 : Int) + (1 : Int)) ∧
  IntKind.i64.wrap ((0 : Int) + (1 : Int)) < (↑(3 : Nat) : Int) ∧ (3 : Nat) ≤ y.fst.length), HIs [HObj.box Md.rw ty72 [SV.val (Go.Value.float Go.FloatKind.f64 (0 : Nat)), SV.val
  (Go.Value.float Go.FloatKind.f64 (0 : Nat)), SV.val (Go.Value.float Go.FloatKind.f64 (0 : Nat))], HObj.row Md.rw ty98 (K.flt Go.FloatKind.f64) (y.fst.set (IntKind.i64.wrap ((0 :
  Int) + (1 : Int))).toNat (canonR ([(4607182418800017408 : Nat), s, t].getD (Int.toNat (0 : Int)) (0 : Nat))).fst)] [HObj.box Md.rw ty72 [SV.val (Go.Value.float Go.FloatKind.f64 (0
  : Nat)), SV.val (Go.Value.float Go.FloatKind.f64 (0 : Nat)), SV.val (Go.Value.float Go.FloatKind.f64 (0 : Nat))], HObj.row Md.rw ty98 (K.flt Go.FloatKind.f64) (y.fst.set
  (IntKind.i64.wrap ((0 : Int) + (1 : Int))).toNat (canonR ([(4607182418800017408 : Nat), s, t].getD (Int.toNat (0 : Int)) (0 : Nat))).fst)] ∧ post_4 () (y.fst.set (IntKind.i64.wrap
  ((0 : Int) + (1 : Int))).toNat (canonR ([(4607182418800017408 : Nat), s, t].getD (Int.toNat (0 : Int)) (0 : Nat))).fst, ())) (Br (List.getD (List.getD (framesL.getD f.toNat (K.arr
  (3 : Nat) (K.arr (3 : Nat) (K.int IntKind.i64))).dflt) (Int.toNat (0 : Int)) (K.arr (3 : Nat) (K.int IntKind.i64)).dflt) (IntKind.i64.wrap ((0 : Int) + (1 : Int))).toNat (0 : Int)
  == (-1 : Int)) (∃ (h : True), ∃ (h : (0 : Int) ≤ IntKind.i64.wrap ((0 : Int) + (1 : Int)) ∧ IntKind.i64.wrap ((0 : Int) + (1 : Int)) < (↑(3 : Nat) : Int) ∧ (3 : Nat) ≤
  y.fst.length), HIs [HObj.box Md.rw ty72 [SV.val (Go.Value.float Go.FloatKind.f64 (0 : Nat)), SV.val (Go.Value.float Go.FloatKind.f64 (0 : Nat)), SV.val (Go.Value.float
  Go.FloatKind.f64 (0 : Nat))], HObj.row Md.rw ty98 (K.flt Go.FloatKind.f64) (y.fst.set (IntKind.i64.wrap ((0 : Int) + (1 : Int))).toNat (canonR (Go.Op.negFloat Go.FloatKind.f64
  ([(4607182418800017408 : Nat), s, t].getD (Int.toNat (0 : Int)) (0 : Nat)))).fst)] [HObj.box Md.rw ty72 [SV.val (Go.Value.float Go.FloatKind.f64 (0 : Nat)), SV.val (Go.Value.float
  Go.FloatKind.f64 (0 : Nat)), SV.val (Go.Value.float Go.FloatKind.f64 (0 : Nat))], HObj.row Md.rw ty98 (K.flt Go.FloatKind.f64) (y.fst.set (IntKind.i64.wrap ((0 : Int) + (1 :
  Int))).toNat (canonR (Go.Op.negFloat Go.FloatKind.f64 ([(4607182418800017408 : Nat), s, t].getD (Int.toNat (0 : Int)) (0 : Nat)))).fst)] ∧ post_4 () (y.fst.set (IntKind.i64.wrap
  ((0 : Int) + (1 : Int))).toNat (canonR (Go.Op.negFloat Go.FloatKind.f64 ([(4607182418800017408 : Nat), s, t].getD (Int.toNat (0 : Int)) (0 : Nat)))).fst, ())) (HIs [HObj.box Md.rw
  ty72 [SV.val (Go.Value.float Go.FloatKind.f64 (0 : Nat)), SV.val (Go.Value.float Go.FloatKind.f64 (0 : Nat)), SV.val (Go.Value.float Go.FloatKind.f64 (0 : Nat))], HObj.row Md.rw
  ty98 (K.flt Go.FloatKind.f64) y.fst] [HObj.box Md.rw ty72 [SV.val (Go.Value.float Go.FloatKind.f64 (0 : Nat)), SV.val (Go.Value.float Go.FloatKind.f64 (0 : Nat)), SV.val
  (Go.Value.float Go.FloatKind.f64 (0 : Nat))], HObj.row Md.rw ty98 (K.flt Go.FloatKind.f64) y.fst] ∧ post_4 () (y.fst, ())))) ∧ ∀ (x : Unit) (y : List Nat × Unit), post_4 x y → ∃
  (post_5 : Unit → List Nat × Unit → Prop), (∃ (h : (0 : Int) ≤ IntKind.i64.wrap ((0 : Int) + (1 : Int)) ∧ IntKind.i64.wrap ((0 : Int) + (1 : Int)) < (↑(3 : Nat) : Int)), ∃ (h : (0
  : Int) ≤ f ∧ f < (↑(6 : Nat) : Int)), ∃ (h : (0 : Int) ≤ IntKind.i64.wrap ((0 : Int) + (1 : Int)) ∧ IntKind.i64.wrap ((0 : Int) + (1 : Int)) < (↑(3 : Nat) : Int)), ∃ (h : (0 :
  Int) ≤ IntKind.i64.wrap ((0 : Int) + (1 : Int)) ∧ IntKind.i64.wrap ((0 : Int) + (1 : Int)) < (↑(3 : Nat) : Int)), Br (List.getD (List.getD (framesL.getD f.toNat (K.arr (3 : Nat)
  (K.arr (3 : Nat) (K.int IntKind.i64))).dflt) (IntKind.i64.wrap ((0 : Int) + (1 : Int))).toNat (K.arr (3 : Nat) (K.int IntKind.i64)).dflt) (IntKind.i64.wrap ((0 : Int) + (1 :
  Int))).toNat (0 : Int) == (1 : Int)) (∃ (h : True), ∃ (h : (0 : Int) ≤ IntKind.i64.wrap ((0 : Int) + (1 : Int)) ∧ IntKind.i64.wrap ((0 : Int) + (1 : Int)) < (↑(3 : Nat) : Int) ∧
  (3 : Nat) ≤ y.fst.length), HIs [HObj.box Md.rw ty72 [SV.val (Go.Value.float Go.FloatKind.f64 (0 : Nat)), SV.val (Go.Value.float Go.FloatKind.f64 (0 : Nat)), SV.val (Go.Value.float
  Go.FloatKind.f64 (0 : Nat))], HObj.row Md.rw ty98 (K.flt Go.FloatKind.f64) (y.fst.set (IntKind.i64.wrap ((0 : Int) + (1 : Int))).toNat (canonR ([(4607182418800017408 : Nat), s,
  t].getD (IntKind.i64.wrap ((0 : Int) + (1 : Int))).toNat (0 : Nat))).fst)] [HObj.box Md.rw ty72 [SV.val (Go.Value.float Go.FloatKind.f64 (0 : Nat)), SV.val (Go.Value.float
  Go.FloatKind.f64 (0 : Nat)), SV.val (Go.Value.float Go.FloatKind.f64 (0 : Nat))], HObj.row Md.rw ty98 (K.flt Go.FloatKind.f64) (y.fst.set (IntKind.i64.wrap ((0 : Int) + (1 :
  Int))).toNat (canonR ([(4607182418800017408 : Nat), s, t].getD (IntKind.i64.wrap ((0 : Int) + (1 : Int))).toNat (0 : Nat))).fst)] ∧ post_5 () (y.fst.set (IntKind.i64.wrap ((0 :
  Int) + (1 : Int))).toNat (canonR ([(4607182418800017408 : Nat), s, t].getD (IntKind.i64.wrap ((0 : Int) + (1 : Int))).toNat (0 : Nat))).fst, ())) (Br (List.getD (List.getD
  (framesL.getD f.toNat (K.arr (3 : Nat) (K.arr (3 : Nat) (K.int IntKind.i64))).dflt) (IntKind.i64.wrap ((0 : Int) + (1 : Int))).toNat (K.arr (3 : Nat) (K.int IntKind.i64)).dflt)
  (IntKind.i64.wrap ((0 : Int) + (1 : Int))).toNat (0 : Int) == (-1 : Int)) (∃ (h : True), ∃ (h : (0 : Int) ≤ IntKind.i64.wrap ((0 : Int) + (1 : Int)) ∧ IntKind.i64.wrap ((0 : Int)
  + (1 : Int)) < (↑(3 : Nat) : Int) ∧ (3 : Nat) ≤ y.fst.length), HIs [HObj.box Md.rw ty72 [SV.val (Go.Value.float Go.FloatKind.f64 (0 : Nat)), SV.val (Go.Value.float
  Go.FloatKind.f64 (0 : Nat)), SV.val (Go.Value.float Go.FloatKind.f64 (0 : Nat))], HObj.row Md.rw ty98 (K.flt Go.FloatKind.f64) (y.fst.set (IntKind.i64.wrap ((0 : Int) + (1 :
  Int))).toNat (canonR (Go.Op.negFloat Go.FloatKind.f64 ([(4607182418800017408 : Nat), s, t].getD (IntKind.i64.wrap ((0 : Int) + (1 : Int))).toNat (0 : Nat)))).fst)] [HObj.box Md.rw
  ty72 [SV.val (Go.Value.float Go.FloatKind.f64 (0 : Nat)), SV.val (Go.Value.float Go.FloatKind.f64 (0 : Nat)), SV.val (Go.Value.float Go.FloatKind.f64 (0 : Nat))], HObj.row Md.rw
  ty98 (K.flt Go.FloatKind.f64) (y.fst.set (IntKind.i64.wrap ((0 : Int) + (1 : Int))).toNat (canonR (Go.Op.negFloat Go.FloatKind.f64 ([(4607182418800017408 : Nat), s, t].getD
  (IntKind.i64.wrap ((0 : Int) + (1 : Int))).toNat (0 : Nat)))).fst)] ∧ post_5 () (y.fst.set (IntKind.i64.wrap ((0 : Int) + (1 : Int))).toNat (canonR (Go.Op.negFloat
  Go.FloatKind.f64 ([(4607182418800017408 : Nat), s, t].getD (IntKind.i64.wrap ((0 : Int) + (1 : Int))).toNat (0 : Nat)))).fst, ())) (HIs [HObj.box Md.rw ty72 [SV.val
  (Go.Value.float Go.FloatKind.f64 (0 : Nat)), SV.val (Go.Value.float Go.FloatKind.f64 (0 : Nat)), SV.val (Go.Value.float Go.FloatKind.f64 (0 : Nat))], HObj.row Md.rw ty98 (K.flt
  Go.FloatKind.f64) y.fst] [HObj.box Md.rw ty72 [SV.val (Go.Value.float Go.FloatKind.f64 (0 : Nat)), SV.val (Go.Value.float Go.FloatKind.f64 (0 : Nat)), SV.val (Go.Value.float
  Go.FloatKind.f64 (0 : Nat))], HObj.row Md.rw ty98 (K.flt Go.FloatKind.f64) y.fst] ∧ post_5 () (y.fst, ())))) ∧ ∀ (x : Unit) (y : List Nat × Unit), post_5 x y → ∃ (post_6 : Unit →
  List Nat × Unit → Prop), (∃ (h : (0 : Int) ≤ IntKind.i64.wrap (IntKind.i64.wrap ((0 : Int) + (1 : Int)) + (1 : Int)) ∧ IntKind.i64.wrap (IntKind.i64.wrap ((0 : Int) + (1 : Int)) +
  (1 : Int)) < (↑(3 : Nat) : Int)), ∃ (h : (0 : Int) ≤ f ∧ f < (↑(6 : Nat) : Int)), ∃ (h : (0 : Int) ≤ IntKind.i64.wrap (IntKind.i64.wrap ((0 : Int) + (1 : Int)) + (1 : Int)) ∧
  IntKind.i64.wrap (IntKind.i64.wrap ((0 : Int) + (1 : Int)) + (1 : Int)) < (↑(3 : Nat) : Int)), ∃ (h : (0 : Int) ≤ IntKind.i64.wrap ((0 : Int) + (1 : Int)) ∧ IntKind.i64.wrap ((0 :
  Int) + (1 : Int)) < (↑(3 : Nat) : Int)), Br (List.getD (List.getD (framesL.getD f.toNat (K.arr (3 : Nat) (K.arr (3 : Nat) (K.int IntKind.i64))).dflt) (IntKind.i64.wrap
  (IntKind.i64.wrap ((0 : Int) + (1 : Int)) + (1 : Int))).toNat (K.arr (3 : Nat) (K.int IntKind.i64)).dflt) (IntKind.i64.wrap ((0 : Int) + (1 : Int))).toNat (0 : Int) == (1 : Int))
  (∃ (h : True), ∃ (h : (0 : Int) ≤ IntKind.i64.wrap ((0 : Int) + (1 : Int)) ∧ IntKind.i64.wrap ((0 : Int) + (1 : Int)) < (↑(3 : Nat) : Int) ∧ (3 : Nat) ≤ y.fst.length), HIs
  [HObj.box Md.rw ty72 [SV.val (Go.Value.float Go.FloatKind.f64 (0 : Nat)), SV.val (Go.Value.float Go.FloatKind.f64 (0 : Nat)), SV.val (Go.Value.float Go.FloatKind.f64 (0 : Nat))],
  HObj.row Md.rw ty98 (K.flt Go.FloatKind.f64) (y.fst.set (IntKind.i64.wrap ((0 : Int) + (1 : Int))).toNat (canonR ([(4607182418800017408 : Nat), s, t].getD (IntKind.i64.wrap
  (IntKind.i64.wrap ((0 : Int) + (1 : Int)) + (1 : Int))).toNat (0 : Nat))).fst)] [HObj.box Md.rw ty72 [SV.val (Go.Value.float Go.FloatKind.f64 (0 : Nat)), SV.val (Go.Value.float
  Go.FloatKind.f64 (0 : Nat)), SV.val (Go.Value.float Go.FloatKind.f64 (0 : Nat))], HObj.row Md.rw ty98 (K.flt Go.FloatKind.f64) (y.fst.set (IntKind.i64.wrap ((0 : Int) + (1 :
  Int))).toNat (canonR ([(4607182418800017408 : Nat), s, t].getD (IntKind.i64.wrap (IntKind.i64.wrap ((0 : Int) + (1 : Int)) + (1 : Int))).toNat (0 : Nat))).fst)] ∧ post_6 ()
  (y.fst.set (IntKind.i64.wrap ((0 : Int) + (1 : Int))).toNat (canonR ([(4607182418800017408 : Nat), s, t].getD (IntKind.i64.wrap (IntKind.i64.wrap ((0 : Int) + (1 : Int)) + (1 :
  Int))).toNat (0 : Nat))).fst, ())) (Br (List.getD (List.getD (framesL.getD f.toNat (K.arr (3 : Nat) (K.arr (3 : Nat) (K.int IntKind.i64))).dflt) (IntKind.i64.wrap
  (IntKind.i64.wrap ((0 : Int) + (1 : Int)) + (1 : Int))).toNat (K.arr (3 : Nat) (K.int IntKind.i64)).dflt) (IntKind.i64.wrap ((0 : Int) + (1 : Int))).toNat (0 : Int) == (-1 : Int))
  (∃ (h : True), ∃ (h : (0 : Int) ≤ IntKind.i64.wrap ((0 : Int) + (1 : Int)) ∧ IntKind.i64.wrap ((0 : Int) + (1 : Int)) < (↑(3 : Nat) : Int) ∧ (3 : Nat) ≤ y.fst.length), HIs
  [HObj.box Md.rw ty72 [SV.val (Go.Value.float Go.FloatKind.f64 (0 : Nat)), SV.val (Go.Value.float Go.FloatKind.f64 (0 : Nat)), SV.val (Go.Value.float Go.FloatKind.f64 (0 : Nat))],
  HObj.row Md.rw ty98 (K.flt Go.FloatKind.f64) (y.fst.set (IntKind.i64.wrap ((0 : Int) + (1 : Int))).toNat (canonR (Go.Op.negFloat Go.FloatKind.f64 ([(4607182418800017408 : Nat), s,
  t].getD (IntKind.i64.wrap (IntKind.i64.wrap ((0 : Int) + (1 : Int)) + (1 : Int))).toNat (0 : Nat)))).fst)] [HObj.box Md.rw ty72 [SV.val (Go.Value.float Go.FloatKind.f64 (0 :
  Nat)), SV.val (Go.Value.float Go.FloatKind.f64 (0 : Nat)), SV.val (Go.Value.float Go.FloatKind.f64 (0 : Nat))], HObj.row Md.rw ty98 (K.flt Go.FloatKind.f64) (y.fst.set
  (IntKind.i64.wrap ((0 : Int) + (1 : Int))).toNat (canonR (Go.Op.negFloat Go.FloatKind.f64 ([(4607182418800017408 : Nat), s, t].getD (IntKind.i64.wrap (IntKind.i64.wrap ((0 : Int)
  + (1 : Int)) + (1 : Int))).toNat (0 : Nat)))).fst)] ∧ post_6 () (y.fst.set (IntKind.i64.wrap ((0 : Int) + (1 : Int))).toNat (canonR (Go.Op.negFloat Go.FloatKind.f64
  ([(4607182418800017408 : Nat), s, t].getD (IntKind.i64.wrap (IntKind.i64.wrap ((0 : Int) + (1 : Int)) + (1 : Int))).toNat (0 : Nat)))).fst, ())) (HIs [HObj.box Md.rw ty72 [SV.val
  (Go.Value.float Go.FloatKind.f64 (0 : Nat)), SV.val (Go.Value.float Go.FloatKind.f64 (0 : Nat)), SV.val (Go.Value.float Go.FloatKind.f64 (0 : Nat))], HObj.row Md.rw ty98 (K.flt
  Go.FloatKind.f64) y.fst] [HObj.box Md.rw ty72 [SV.val (Go.Value.float Go.FloatKind.f64 (0 : Nat)), SV.val (Go.Value.float Go.FloatKind.f64 (0 : Nat)), SV.val (Go.Value.float
  Go.FloatKind.f64 (0 : Nat))], HObj.row Md.rw ty98 (K.flt Go.FloatKind.f64) y.fst] ∧ post_6 () (y.fst, ())))) ∧ ∀ (x : Unit) (y : List Nat × Unit), post_6 x y → ∃ (post_7 : Unit →
  List Nat × Unit → Prop), (∃ (h : (0 : Int) ≤ (0 : Int) ∧ (0 : Int) < (↑(3 : Nat) : Int)), ∃ (h : (0 : Int) ≤ f ∧ f < (↑(6 : Nat) : Int)), ∃ (h : (0 : Int) ≤ (0 : Int) ∧ (0 : Int)
  < (↑(3 : Nat) : Int)), ∃ (h : (0 : Int) ≤ IntKind.i64.wrap (IntKind.i64.wrap ((0 : Int) + (1 : Int)) + (1 : Int)) ∧ IntKind.i64.wrap (IntKind.i64.wrap ((0 : Int) + (1 : Int)) + (1
  : Int)) < (↑(3 : Nat) : Int)), Br (List.getD (List.getD (framesL.getD f.toNat (K.arr (3 : Nat) (K.arr (3 : Nat) (K.int IntKind.i64))).dflt) (Int.toNat (0 : Int)) (K.arr (3 : Nat)
  (K.int IntKind.i64)).dflt) (IntKind.i64.wrap (IntKind.i64.wrap ((0 : Int) + (1 : Int)) + (1 : Int))).toNat (0 : Int) == (1 : Int)) (∃ (h : True), ∃ (h : (0 : Int) ≤
  IntKind.i64.wrap (IntKind.i64.wrap ((0 : Int) + (1 : Int)) + (1 : Int)) ∧ IntKind.i64.wrap (IntKind.i64.wrap ((0 : Int) + (1 : Int)) + (1 : Int)) < (↑(3 : Nat) : Int) ∧ (3 : Nat)
  ≤ y.fst.length), HIs [HObj.box Md.rw ty72 [SV.val (Go.Value.float Go.FloatKind.f64 (0 : Nat)), SV.val (Go.Value.float Go.FloatKind.f64 (0 : Nat)), SV.val (Go.Value.float
  Go.FloatKind.f64 (0 : Nat))], HObj.row Md.rw ty98 (K.flt Go.FloatKind.f64) (y.fst.set (IntKind.i64.wrap (IntKind.i64.wrap ((0 : Int) + (1 : Int)) + (1 : Int))).toNat (canonR
  ([(4607182418800017408 : Nat), s, t].getD (Int.toNat (0 : Int)) (0 : Nat))).fst)] [HObj.box Md.rw ty72 [SV.val (Go.Value.float Go.FloatKind.f64 (0 : Nat)), SV.val (Go.Value.float
  Go.FloatKind.f64 (0 : Nat)), SV.val (Go.Value.float Go.FloatKind.f64 (0 : Nat))], HObj.row Md.rw ty98 (K.flt Go.FloatKind.f64) (y.fst.set (IntKind.i64.wrap (IntKind.i64.wrap ((0 :
  Int) + (1 : Int)) + (1 : Int))).toNat (canonR ([(4607182418800017408 : Nat), s, t].getD (Int.toNat (0 : Int)) (0 : Nat))).fst)] ∧ post_7 () (y.fst.set (IntKind.i64.wrap
  (IntKind.i64.wrap ((0 : Int) + (1 : Int)) + (1 : Int))).toNat (canonR ([(4607182418800017408 : Nat), s, t].getD (Int.toNat (0 : Int)) (0 : Nat))).fst, ())) (Br (List.getD
  (List.getD (framesL.getD f.toNat (K.arr (3 : Nat) (K.arr (3 : Nat) (K.int IntKind.i64))).dflt) (Int.toNat (0 : Int)) (K.arr (3 : Nat) (K.int IntKind.i64)).dflt) (IntKind.i64.wrap
  (IntKind.i64.wrap ((0 : Int) + (1 : Int)) + (1 : Int))).toNat (0 : Int) == (-1 : Int)) (∃ (h : True), ∃ (h : (0 : Int) ≤ IntKind.i64.wrap (IntKind.i64.wrap ((0 : Int) + (1 : Int))
  + (1 : Int)) ∧ IntKind.i64.wrap (IntKind.i64.wrap ((0 : Int) + (1 : Int)) + (1 : Int)) < (↑(3 : Nat) : Int) ∧ (3 : Nat) ≤ y.fst.length), HIs [HObj.box Md.rw ty72 [SV.val
  (Go.Value.float Go.FloatKind.f64 (0 : Nat)), SV.val (Go.Value.float Go.FloatKind.f64 (0 : Nat)), SV.val (Go.Value.float Go.FloatKind.f64 (0 : Nat))], HObj.row Md.rw ty98 (K.flt
  Go.FloatKind.f64) (y.fst.set (IntKind.i64.wrap (IntKind.i64.wrap ((0 : Int) + (1 : Int)) + (1 : Int))).toNat (canonR (Go.Op.negFloat Go.FloatKind.f64 ([(4607182418800017408 :
  Nat), s, t].getD (Int.toNat (0 : Int)) (0 : Nat)))).fst)] [HObj.box Md.rw ty72 [SV.val (Go.Value.float Go.FloatKind.f64 (0 : Nat)), SV.val (Go.Value.float Go.FloatKind.f64 (0 :
  Nat)), SV.val (Go.Value.float Go.FloatKind.f64 (0 : Nat))], HObj.row Md.rw ty98 (K.flt Go.FloatKind.f64) (y.fst.set (IntKind.i64.wrap (IntKind.i64.wrap ((0 : Int) + (1 : Int)) +
  (1 : Int))).toNat (canonR (Go.Op.negFloat Go.FloatKind.f64 ([(4607182418800017408 : Nat), s, t].getD (Int.toNat (0 : Int)) (0 : Nat)))).fst)] ∧ post_7 () (y.fst.set
  (IntKind.i64.wrap (IntKind.i64.wrap ((0 : Int) + (1 : Int)) + (1 : Int))).toNat (canonR (Go.Op.negFloat Go.FloatKind.f64 ([(4607182418800017408 : Nat), s, t].getD (Int.toNat (0 :
  Int)) (0 : Nat)))).fst, ())) (HIs [HObj.box Md.rw ty72 [SV.val (Go.Value.float Go.FloatKind.f64 (0 : Nat)), SV.val (Go.Value.float Go.FloatKind.f64 (0 : Nat)), SV.val
  (Go.Value.float Go.FloatKind.f64 (0 : Nat))], HObj.row Md.rw ty98 (K.flt Go.FloatKind.f64) y.fst] [HObj.box Md.rw ty72 [SV.val (Go.Value.float Go.FloatKind.f64 (0 : Nat)), SV.val
  (Go.Value.float Go.FloatKind.f64 (0 : Nat)), SV.val (Go.Value.float Go.FloatKind.f64 (0 : Nat))], HObj.row Md.rw ty98 (K.flt Go.FloatKind.f64) y.fst] ∧ post_7 () (y.fst, ())))) ∧
  ∀ (x : Unit) (y : List Nat × Unit), post_7 x y → ∃ (post_8 : Unit → List Nat × Unit → Prop), (∃ (h : (0 : Int) ≤ IntKind.i64.wrap ((0 : Int) + (1 : Int)) ∧ IntKind.i64.wrap ((0 :
  Int) + (1 : Int)) < (↑(3 : Nat) : Int)), ∃ (h : (0 : Int) ≤ f ∧ f < (↑(6 : Nat) : Int)), ∃ (h : (0 : Int) ≤ IntKind.i64.wrap ((0 : Int) + (1 : Int)) ∧ IntKind.i64.wrap ((0 : Int)
  + (1 : Int)) < (↑(3 : Nat) : Int)), ∃ (h : (0 : Int) ≤ IntKind.i64.wrap (IntKind.i64.wrap ((0 : Int) + (1 : Int)) + (1 : Int)) ∧ IntKind.i64.wrap (IntKind.i64.wrap ((0 : Int) + (1
  : Int)) + (1 : Int)) < (↑(3 : Nat) : Int)), Br (List.getD (List.getD (framesL.getD f.toNat (K.arr (3 : Nat) (K.arr (3 : Nat) (K.int IntKind.i64))).dflt) (IntKind.i64.wrap ((0 :
  Int) + (1 : Int))).toNat (K.arr (3 : Nat) (K.int IntKind.i64)).dflt) (IntKind.i64.wrap (IntKind.i64.wrap ((0 : Int) + (1 : Int)) + (1 : Int))).toNat (0 : Int) == (1 : Int)) (∃ (h
  : True), ∃ (h : (0 : Int) ≤ IntKind.i64.wrap (IntKind.i64.wrap ((0 : Int) + (1 : Int)) + (1 : Int)) ∧ IntKind.i64.wrap (IntKind.i64.wrap ((0 : Int) + (1 : Int)) + (1 : Int)) <
  (↑(3 : Nat) : Int) ∧ (3 : Nat) ≤ y.fst.length), HIs [HObj.box Md.rw ty72 [SV.val (Go.Value.float Go.FloatKind.f64 (0 : Nat)), SV.val (Go.Value.float Go.FloatKind.f64 (0 : Nat)),
  SV.val (Go.Value.float Go.FloatKind.f64 (0 : Nat))], HObj.row Md.rw ty98 (K.flt Go.FloatKind.f64) (y.fst.set (IntKind.i64.wrap (IntKind.i64.wrap ((0 : Int) + (1 : Int)) + (1 :
  Int))).toNat (canonR ([(4607182418800017408 : Nat), s, t].getD (IntKind.i64.wrap ((0 : Int) + (1 : Int))).toNat (0 : Nat))).fst)] [HObj.box Md.rw ty72 [SV.val (Go.Value.float
  Go.FloatKind.f64 (0 : Nat)), SV.val (Go.Value.float Go.FloatKind.f64 (0 : Nat)), SV.val (Go.Value.float Go.FloatKind.f64 (0 : Nat))], HObj.row Md.rw ty98 (K.flt Go.FloatKind.f64)
  (y.fst.set (IntKind.i64.wrap (IntKind.i64.wrap ((0 : Int) + (1 : Int)) + (1 : Int))).toNat (canonR ([(4607182418800017408 : Nat), s, t].getD (IntKind.i64.wrap ((0 : Int) + (1 :
  Int))).toNat (0 : Nat))).fst)] ∧ post_8 () (y.fst.set (IntKind.i64.wrap (IntKind.i64.wrap ((0 : Int) + (1 : Int)) + (1 : Int))).toNat (canonR ([(4607182418800017408 : Nat), s,
  t].getD (IntKind.i64.wrap ((0 : Int) + (1 : Int))).toNat (0 : Nat))).fst, ())) (Br (List.getD (List.getD (framesL.getD f.toNat (K.arr (3 : Nat) (K.arr (3 : Nat) (K.int
  IntKind.i64))).dflt) (IntKind.i64.wrap ((0 : Int) + (1 : Int))).toNat (K.arr (3 : Nat) (K.int IntKind.i64)).dflt) (IntKind.i64.wrap (IntKind.i64.wrap ((0 : Int) + (1 : Int)) + (1
  : Int))).toNat (0 : Int) == (-1 : Int)) (∃ (h : True), ∃ (h : (0 : Int) ≤ IntKind.i64.wrap (IntKind.i64.wrap ((0 : Int) + (1 : Int)) + (1 : Int)) ∧ IntKind.i64.wrap
  (IntKind.i64.wrap ((0 : Int) + (1 : Int)) + (1 : Int)) < (↑(3 : Nat) : Int) ∧ (3 : Nat) ≤ y.fst.length), HIs [HObj.box Md.rw ty72 [SV.val (Go.Value.float Go.FloatKind.f64 (0 :
  Nat)), SV.val (Go.Value.float Go.FloatKind.f64 (0 : Nat)), SV.val (Go.Value.float Go.FloatKind.f64 (0 : Nat))], HObj.row Md.rw ty98 (K.flt Go.FloatKind.f64) (y.fst.set
  (IntKind.i64.wrap (IntKind.i64.wrap ((0 : Int) + (1 : Int)) + (1 : Int))).toNat (canonR (Go.Op.negFloat Go.FloatKind.f64 ([(4607182418800017408 : Nat), s, t].getD
  (IntKind.i64.wrap ((0 : Int) + (1 : Int))).toNat (0 : Nat)))).fst)] [HObj.box Md.rw ty72 [SV.val (Go.Value.float Go.FloatKind.f64 (0 : Nat)), SV.val (Go.Value.float
  Go.FloatKind.f64 (0 : Nat)), SV.val (Go.Value.float Go.FloatKind.f64 (0 : Nat))], HObj.row Md.rw ty98 (K.flt Go.FloatKind.f64) (y.fst.set (IntKind.i64.wrap (IntKind.i64.wrap ((0 :
  Int) + (1 : Int)) + (1 : Int))).toNat (canonR (Go.Op.negFloat Go.FloatKind.f64 ([(4607182418800017408 : Nat), s, t].getD (IntKind.i64.wrap ((0 : Int) + (1 : Int))).toNat (0 :
  Nat)))).fst)] ∧ post_8 () (y.fst.set (IntKind.i64.wrap (IntKind.i64.wrap ((0 : Int) + (1 : Int)) + (1 : Int))).toNat (canonR (Go.Op.negFloat Go.FloatKind.f64
  ([(4607182418800017408 : Nat), s, t].getD (IntKind.i64.wrap ((0 : Int) + (1 : Int))).toNat (0 : Nat)))).fst, ())) (HIs [HObj.box Md.rw ty72 [SV.val (Go.Value.float
  Go.FloatKind.f64 (0 : Nat)), SV.val (Go.Value.float Go.FloatKind.f64 (0 : Nat)), SV.val (Go.Value.float Go.FloatKind.f64 (0 : Nat))], HObj.row Md.rw ty98 (K.flt Go.FloatKind.f64)
  y.fst] [HObj.box Md.rw ty72 [SV.val (Go.Value.float Go.FloatKind.f64 (0 : Nat)), SV.val (Go.Value.float Go.FloatKind.f64 (0 : Nat)), SV.val (Go.Value.float Go.FloatKind.f64 (0 :
  Nat))], HObj.row Md.rw ty98 (K.flt Go.FloatKind.f64) y.fst] ∧ post_8 () (y.fst, ())))) ∧ ∀ (x : Unit) (y : List Nat × Unit), post_8 x y → ∃ (post_9 : Unit → List Nat × Unit →
  Prop), (∃ (h : (0 : Int) ≤ IntKind.i64.wrap (IntKind.i64.wrap ((0 : Int) + (1 : Int)) + (1 : Int)) ∧ IntKind.i64.wrap (IntKind.i64.wrap ((0 : Int) + (1 : Int)) + (1 : Int)) < (↑(3
  : Nat) : Int)), ∃ (h : (0 : Int) ≤ f ∧ f < (↑(6 : Nat) : Int)), ∃ (h : (0 : Int) ≤ IntKind.i64.wrap (IntKind.i64.wrap ((0 : Int) + (1 : Int)) + (1 : Int)) ∧ IntKind.i64.wrap
  (IntKind.i64.wrap ((0 : Int) + (1 : Int)) + (1 : Int)) < (↑(3 : Nat) : Int)), ∃ (h : (0 : Int) ≤ IntKind.i64.wrap (IntKind.i64.wrap ((0 : Int) + (1 : Int)) + (1 : Int)) ∧
  IntKind.i64.wrap (IntKind.i64.wrap ((0 : Int) + (1 : Int)) + (1 : Int)) < (↑(3 : Nat) : Int)), Br (List.getD (List.getD (framesL.getD f.toNat (K.arr (3 : Nat) (K.arr (3 : Nat)
  (K.int IntKind.i64))).dflt) (IntKind.i64.wrap (IntKind.i64.wrap ((0 : Int) + (1 : Int)) + (1 : Int))).toNat (K.arr (3 : Nat) (K.int IntKind.i64)).dflt) (IntKind.i64.wrap
  (IntKind.i64.wrap ((0 : Int) + (1 : Int)) + (1 : Int))).toNat (0 : Int) == (1 : Int)) (∃ (h : True), ∃ (h : (0 : Int) ≤ IntKind.i64.wrap (IntKind.i64.wrap ((0 : Int) + (1 : Int))
  + (1 : Int)) ∧ IntKind.i64.wrap (IntKind.i64.wrap ((0 : Int) + (1 : Int)) + (1 : Int)) < (↑(3 : Nat) : Int) ∧ (3 : Nat) ≤ y.fst.length), HIs [HObj.box Md.rw ty72 [SV.val
  (Go.Value.float Go.FloatKind.f64 (0 : Nat)), SV.val (Go.Value.float Go.FloatKind.f64 (0 : Nat)), SV.val (Go.Value.float Go.FloatKind.f64 (0 : Nat))], HObj.row Md.rw ty98 (K.flt
  Go.FloatKind.f64) (y.fst.set (IntKind.i64.wrap (IntKind.i64.wrap ((0 : Int) + (1 : Int)) + (1 : Int))).toNat (canonR ([(4607182418800017408 : Nat), s, t].getD (IntKind.i64.wrap
  (IntKind.i64.wrap ((0 : Int) + (1 : Int)) + (1 : Int))).toNat (0 : Nat))).fst)] [HObj.box Md.rw ty72 [SV.val (Go.Value.float Go.FloatKind.f64 (0 : Nat)), SV.val (Go.Value.float
  Go.FloatKind.f64 (0 : Nat)), SV.val (Go.Value.float Go.FloatKind.f64 (0 : Nat))], HObj.row Md.rw ty98 (K.flt Go.FloatKind.f64) (y.fst.set (IntKind.i64.wrap (IntKind.i64.wrap ((0 :
  Int) + (1 : Int)) + (1 : Int))).toNat (canonR ([(4607182418800017408 : Nat), s, t].getD (IntKind.i64.wrap (IntKind.i64.wrap ((0 : Int) + (1 : Int)) + (1 : Int))).toNat (0 :
  Nat))).fst)] ∧ post_9 () (y.fst.set (IntKind.i64.wrap (IntKind.i64.wrap ((0 : Int) + (1 : Int)) + (1 : Int))).toNat (canonR ([(4607182418800017408 : Nat), s, t].getD
  (IntKind.i64.wrap (IntKind.i64.wrap ((0 : Int) + (1 : Int)) + (1 : Int))).toNat (0 : Nat))).fst, ())) (Br (List.getD (List.getD (framesL.getD f.toNat (K.arr (3 : Nat) (K.arr (3 :
  Nat) (K.int IntKind.i64))).dflt) (IntKind.i64.wrap (IntKind.i64.wrap ((0 : Int) + (1 : Int)) + (1 : Int))).toNat (K.arr (3 : Nat) (K.int IntKind.i64)).dflt) (IntKind.i64.wrap
  (IntKind.i64.wrap ((0 : Int) + (1 : Int)) + (1 : Int))).toNat (0 : Int) == (-1 : Int)) (∃ (h : True), ∃ (h : (0 : Int) ≤ IntKind.i64.wrap (IntKind.i64.wrap ((0 : Int) + (1 : Int))
  + (1 : Int)) ∧ IntKind.i64.wrap (IntKind.i64.wrap ((0 : Int) + (1 : Int)) + (1 : Int)) < (↑(3 : Nat) : Int) ∧ (3 : Nat) ≤ y.fst.length), HIs [HObj.box Md.rw ty72 [SV.val
  (Go.Value.float Go.FloatKind.f64 (0 : Nat)), SV.val (Go.Value.float Go.FloatKind.f64 (0 : Nat)), SV.val (Go.Value.float Go.FloatKind.f64 (0 : Nat))], HObj.row Md.rw ty98 (K.flt
  Go.FloatKind.f64) (y.fst.set (IntKind.i64.wrap (IntKind.i64.wrap ((0 : Int) + (1 : Int)) + (1 : Int))).toNat (canonR (Go.Op.negFloat Go.FloatKind.f64 ([(4607182418800017408 :
  Nat), s, t].getD (IntKind.i64.wrap (IntKind.i64.wrap ((0 : Int) + (1 : Int)) + (1 : Int))).toNat (0 : Nat)))).fst)] [HObj.box Md.rw ty72 [SV.val (Go.Value.float Go.FloatKind.f64
  (0 : Nat)), SV.val (Go.Value.float Go.FloatKind.f64 (0 : Nat)), SV.val (Go.Value.float Go.FloatKind.f64 (0 : Nat))], HObj.row Md.rw ty98 (K.flt Go.FloatKind.f64) (y.fst.set
  (IntKind.i64.wrap (IntKind.i64.wrap ((0 : Int) + (1 : Int)) + (1 : Int))).toNat (canonR (Go.Op.negFloat Go.FloatKind.f64 ([(4607182418800017408 : Nat), s, t].getD
  (IntKind.i64.wrap (IntKind.i64.wrap ((0 : Int) + (1 : Int)) + (1 : Int))).toNat (0 : Nat)))).fst)] ∧ post_9 () (y.fst.set (IntKind.i64.wrap (IntKind.i64.wrap ((0 : Int) + (1 :
  Int)) + (1 : Int))).toNat (canonR (Go.Op.negFloat Go.FloatKind.f64 ([(4607182418800017408 : Nat), s, t].getD (IntKind.i64.wrap (IntKind.i64.wrap ((0 : Int) + (1 : Int)) + (1 :
  Int))).toNat (0 : Nat)))).fst, ())) (HIs [HObj.box Md.rw ty72 [SV.val (Go.Value.float Go.FloatKind.f64 (0 : Nat)), SV.val (Go.Value.float Go.FloatKind.f64 (0 : Nat)), SV.val
  (Go.Value.float Go.FloatKind.f64 (0 : Nat))], HObj.row Md.rw ty98 (K.flt Go.FloatKind.f64) y.fst] [HObj.box Md.rw ty72 [SV.val (Go.Value.float Go.FloatKind.f64 (0 : Nat)), SV.val
  (Go.Value.float Go.FloatKind.f64 (0 : Nat)), SV.val (Go.Value.float Go.FloatKind.f64 (0 : Nat))], HObj.row Md.rw ty98 (K.flt Go.FloatKind.f64) y.fst] ∧ post_9 () (y.fst, ())))) ∧
  ∀ (x : Unit) (y : List Nat × Unit), post_9 x y → ∃ (h : (0 : Int) ≤ (0 : Int) ∧ (0 : Int) < (↑(3 : Nat) : Int) ∧ (3 : Nat) ≤ y.fst.length), ∃ (h : (0 : Int) ≤ (1 : Int) ∧ (1 :
  Int) < (↑(3 : Nat) : Int) ∧ (3 : Nat) ≤ y.fst.length), ∃ (h : (0 : Int) ≤ (2 : Int) ∧ (2 : Int) < (↑(3 : Nat) : Int) ∧ (3 : Nat) ≤ y.fst.length), ∃ (h : WV (y.fst.getD (Int.toNat
  (0 : Int)) (0 : Nat), y.fst.getD (Int.toNat (1 : Int)) (0 : Nat), y.fst.getD (Int.toNat (2 : Int)) (0 : Nat))), post (((unitR (y.fst.getD (Int.toNat (0 : Int)) (0 : Nat),
  y.fst.getD (Int.toNat (1 : Int)) (0 : Nat), y.fst.getD (Int.toNat (2 : Int)) (0 : Nat))).fst.fst, (unitR (y.fst.getD (Int.toNat (0 : Int)) (0 : Nat), y.fst.getD (Int.toNat (1 :
  Int)) (0 : Nat), y.fst.getD (Int.toNat (2 : Int)) (0 : Nat))).fst.snd.fst, (unitR (y.fst.getD (Int.toNat (0 : Int)) (0 : Nat), y.fst.getD (Int.toNat (1 : Int)) (0 : Nat),
  y.fst.getD (Int.toNat (2 : Int)) (0 : Nat))).fst.snd.snd), ())
theorem Lx_geom_point (ty0 ty1 : Nat) (f : Int) (s : Nat) (t : Nat) (h : WPoint f s t) : Fx_geom_point ty0 ty1 f s t (fun r => r = pointR f s t) := by
  obtain ⟨f0, f5, hs, ht⟩ := h
  have hfb : 0 ≤ f ∧ f < ((6 : Nat) : Int) := ⟨f0, by omega⟩
  refine ⟨fun _ y => y.1 = [(axisF (frameI f 0 0) (List.getD [(4607182418800017408 : Nat), s, t] (Int.toNat (0 : Int)) (0 : Nat)) 0), 0, 0], ⟨by decide, hfb, by decide, by decide, br_axis (m := (frameI f 0 0)) (v := (List.getD [(4607182418800017408 : Nat), s, t] (Int.toNat (0 : Int)) (0 : Nat))) (c := 0) (P := fun z => [z, 0, 0] = [(axisF (frameI f 0 0) (List.getD [(4607182418800017408 : Nat), s, t] (Int.toNat (0 : Int)) (0 : Nat)) 0), 0, 0]) rfl (fun e => ⟨trivial, ⟨by decide, by decide, Nat.le_refl 3⟩, rfl, e⟩) (fun e => ⟨trivial, ⟨by decide, by decide, Nat.le_refl 3⟩, rfl, e⟩) (fun e => ⟨rfl, e⟩)⟩, ?_⟩
  rintro ⟨⟩ ⟨_, ⟨⟩⟩ rfl
  refine ⟨fun _ y => y.1 = [(axisF (frameI f 1 0) s (axisF (frameI f 0 0) (List.getD [(4607182418800017408 : Nat), s, t] (Int.toNat (0 : Int)) (0 : Nat)) 0)), 0, 0], ⟨by decide, hfb, by decide, by decide, br_axis (m := (frameI f 1 0)) (v := s) (c := (axisF (frameI f 0 0) (List.getD [(4607182418800017408 : Nat), s, t] (Int.toNat (0 : Int)) (0 : Nat)) 0)) (P := fun z => [z, 0, 0] = [(axisF (frameI f 1 0) s (axisF (frameI f 0 0) (List.getD [(4607182418800017408 : Nat), s, t] (Int.toNat (0 : Int)) (0 : Nat)) 0)), 0, 0]) rfl (fun e => ⟨trivial, ⟨by decide, by decide, Nat.le_refl 3⟩, rfl, e⟩) (fun e => ⟨trivial, ⟨by decide, by decide, Nat.le_refl 3⟩, rfl, e⟩) (fun e => ⟨rfl, e⟩)⟩, ?_⟩
  rintro ⟨⟩ ⟨_, ⟨⟩⟩ rfl
  refine ⟨fun _ y => y.1 = [(axisF (frameI f 2 0) t (axisF (frameI f 1 0) s (axisF (frameI f 0 0) (List.getD [(4607182418800017408 : Nat), s, t] (Int.toNat (0 : Int)) (0 : Nat)) 0))), 0, 0], ⟨by decide, hfb, by decide, by decide, br_axis (m := (frameI f 2 0)) (v := t) (c := (axisF (frameI f 1 0) s (axisF (frameI f 0 0) (List.getD [(4607182418800017408 : Nat), s, t] (Int.toNat (0 : Int)) (0 : Nat)) 0))) (P := fun z => [z, 0, 0] = [(axisF (frameI f 2 0) t (axisF (frameI f 1 0) s (axisF (frameI f 0 0) (List.getD [(4607182418800017408 : Nat), s, t] (Int.toNat (0 : Int)) (0 : Nat)) 0))), 0, 0]) rfl (fun e => ⟨trivial, ⟨by decide, by decide, Nat.le_refl 3⟩, rfl, e⟩) (fun e => ⟨trivial, ⟨by decide, by decide, Nat.le_refl 3⟩, rfl, e⟩) (fun e => ⟨rfl, e⟩)⟩, ?_⟩
  rintro ⟨⟩ ⟨_, ⟨⟩⟩ rfl
  refine ⟨fun _ y => y.1 = [(axisF (frameI f 2 0) t (axisF (frameI f 1 0) s (axisF (frameI f 0 0) (List.getD [(4607182418800017408 : Nat), s, t] (Int.toNat (0 : Int)) (0 : Nat)) 0))), (axisF (frameI f 0 1) (List.getD [(4607182418800017408 : Nat), s, t] (Int.toNat (0 : Int)) (0 : Nat)) 0), 0], ⟨by decide, hfb, by decide, by decide, br_axis (m := (frameI f 0 1)) (v := (List.getD [(4607182418800017408 : Nat), s, t] (Int.toNat (0 : Int)) (0 : Nat))) (c := 0) (P := fun z => [(axisF (frameI f 2 0) t (axisF (frameI f 1 0) s (axisF (frameI f 0 0) (List.getD [(4607182418800017408 : Nat), s, t] (Int.toNat (0 : Int)) (0 : Nat)) 0))), z, 0] = [(axisF (frameI f 2 0) t (axisF (frameI f 1 0) s (axisF (frameI f 0 0) (List.getD [(4607182418800017408 : Nat), s, t] (Int.toNat (0 : Int)) (0 : Nat)) 0))), (axisF (frameI f 0 1) (List.getD [(4607182418800017408 : Nat), s, t] (Int.toNat (0 : Int)) (0 : Nat)) 0), 0]) rfl (fun e => ⟨trivial, ⟨by decide, by decide, Nat.le_refl 3⟩, rfl, e⟩) (fun e => ⟨trivial, ⟨by decide, by decide, Nat.le_refl 3⟩, rfl, e⟩) (fun e => ⟨rfl, e⟩)⟩, ?_⟩
  rintro ⟨⟩ ⟨_, ⟨⟩⟩ rfl
  refine ⟨fun _ y => y.1 = [(axisF (frameI f 2 0) t (axisF (frameI f 1 0) s (axisF (frameI f 0 0) (List.getD [(4607182418800017408 : Nat), s, t] (Int.toNat (0 : Int)) (0 : Nat)) 0))), (axisF (frameI f 1 1) s (axisF (frameI f 0 1) (List.getD [(4607182418800017408 : Nat), s, t] (Int.toNat (0 : Int)) (0 : Nat)) 0)), 0], ⟨by decide, hfb, by decide, by decide, br_axis (m := (frameI f 1 1)) (v := s) (c := (axisF (frameI f 0 1) (List.getD [(4607182418800017408 : Nat), s, t] (Int.toNat (0 : Int)) (0 : Nat)) 0)) (P := fun z => [(axisF (frameI f 2 0) t (axisF (frameI f 1 0) s (axisF (frameI f 0 0) (List.getD [(4607182418800017408 : Nat), s, t] (Int.toNat (0 : Int)) (0 : Nat)) 0))), z, 0] = [(axisF (frameI f 2 0) t (axisF (frameI f 1 0) s (axisF (frameI f 0 0) (List.getD [(4607182418800017408 : Nat), s, t] (Int.toNat (0 : Int)) (0 : Nat)) 0))), (axisF (frameI f 1 1) s (axisF (frameI f 0 1) (List.getD [(4607182418800017408 : Nat), s, t] (Int.toNat (0 : Int)) (0 : Nat)) 0)), 0]) rfl (fun e => ⟨trivial, ⟨by decide, by decide, Nat.le_refl 3⟩, rfl, e⟩) (fun e => ⟨trivial, ⟨by decide, by decide, Nat.le_refl 3⟩, rfl, e⟩) (fun e => ⟨rfl, e⟩)⟩, ?_⟩
  rintro ⟨⟩ ⟨_, ⟨⟩⟩ rfl
  refine ⟨fun _ y => y.1 = [(axisF (frameI f 2 0) t (axisF (frameI f 1 0) s (axisF (frameI f 0 0) (List.getD [(4607182418800017408 : Nat), s, t] (Int.toNat (0 : Int)) (0 : Nat)) 0))), (axisF (frameI f 2 1) t (axisF (frameI f 1 1) s (axisF (frameI f 0 1) (List.getD [(4607182418800017408 : Nat), s, t] (Int.toNat (0 : Int)) (0 : Nat)) 0))), 0], ⟨by decide, hfb, by decide, by decide, br_axis (m := (frameI f 2 1)) (v := t) (c := (axisF (frameI f 1 1) s (axisF (frameI f 0 1) (List.getD [(4607182418800017408 : Nat), s, t] (Int.toNat (0 : Int)) (0 : Nat)) 0))) (P := fun z => [(axisF (frameI f 2 0) t (axisF (frameI f 1 0) s (axisF (frameI f 0 0) (List.getD [(4607182418800017408 : Nat), s, t] (Int.toNat (0 : Int)) (0 : Nat)) 0))), z, 0] = [(axisF (frameI f 2 0) t (axisF (frameI f 1 0) s (axisF (frameI f 0 0) (List.getD [(4607182418800017408 : Nat), s, t] (Int.toNat (0 : Int)) (0 : Nat)) 0))), (axisF (frameI f 2 1) t (axisF (frameI f 1 1) s (axisF (frameI f 0 1) (List.getD [(4607182418800017408 : Nat), s, t] (Int.toNat (0 : Int)) (0 : Nat)) 0))), 0]) rfl (fun e => ⟨trivial, ⟨by decide, by decide, Nat.le_refl 3⟩, rfl, e⟩) (fun e => ⟨trivial, ⟨by decide, by decide, Nat.le_refl 3⟩, rfl, e⟩) (fun e => ⟨rfl, e⟩)⟩, ?_⟩
  rintro ⟨⟩ ⟨_, ⟨⟩⟩ rfl
  refine ⟨fun _ y => y.1 = [(axisF (frameI f 2 0) t (axisF (frameI f 1 0) s (axisF (frameI f 0 0) (List.getD [(4607182418800017408 : Nat), s, t] (Int.toNat (0 : Int)) (0 : Nat)) 0))), (axisF (frameI f 2 1) t (axisF (frameI f 1 1) s (axisF (frameI f 0 1) (List.getD [(4607182418800017408 : Nat), s, t] (Int.toNat (0 : Int)) (0 : Nat)) 0))), (axisF (frameI f 0 2) (List.getD [(4607182418800017408 : Nat), s, t] (Int.toNat (0 : Int)) (0 : Nat)) 0)], ⟨by decide, hfb, by decide, by decide, br_axis (m := (frameI f 0 2)) (v := (List.getD [(4607182418800017408 : Nat), s, t] (Int.toNat (0 : Int)) (0 : Nat))) (c := 0) (P := fun z => [(axisF (frameI f 2 0) t (axisF (frameI f 1 0) s (axisF (frameI f 0 0) (List.getD [(4607182418800017408 : Nat), s, t] (Int.toNat (0 : Int)) (0 : Nat)) 0))), (axisF (frameI f 2 1) t (axisF (frameI f 1 1) s (axisF (frameI f 0 1) (List.getD [(4607182418800017408 : Nat), s, t] (Int.toNat (0 : Int)) (0 : Nat)) 0))), z] = [(axisF (frameI f 2 0) t (axisF (frameI f 1 0) s (axisF (frameI f 0 0) (List.getD [(4607182418800017408 : Nat), s, t] (Int.toNat (0 : Int)) (0 : Nat)) 0))), (axisF (frameI f 2 1) t (axisF (frameI f 1 1) s (axisF (frameI f 0 1) (List.getD [(4607182418800017408 : Nat), s, t] (Int.toNat (0 : Int)) (0 : Nat)) 0))), (axisF (frameI f 0 2) (List.getD [(4607182418800017408 : Nat), s, t] (Int.toNat (0 : Int)) (0 : Nat)) 0)]) rfl (fun e => ⟨trivial, ⟨by decide, by decide, Nat.le_refl 3⟩, rfl, e⟩) (fun e => ⟨trivial, ⟨by decide, by decide, Nat.le_refl 3⟩, rfl, e⟩) (fun e => ⟨rfl, e⟩)⟩, ?_⟩
  rintro ⟨⟩ ⟨_, ⟨⟩⟩ rfl
  refine ⟨fun _ y => y.1 = [(axisF (frameI f 2 0) t (axisF (frameI f 1 0) s (axisF (frameI f 0 0) (List.getD [(4607182418800017408 : Nat), s, t] (Int.toNat (0 : Int)) (0 : Nat)) 0))), (axisF (frameI f 2 1) t (axisF (frameI f 1 1) s (axisF (frameI f 0 1) (List.getD [(4607182418800017408 : Nat), s, t] (Int.toNat (0 : Int)) (0 : Nat)) 0))), (axisF (frameI f 1 2) s (axisF (frameI f 0 2) (List.getD [(4607182418800017408 : Nat), s, t] (Int.toNat (0 : Int)) (0 : Nat)) 0))], ⟨by decide, hfb, by decide, by decide, br_axis (m := (frameI f 1 2)) (v := s) (c := (axisF (frameI f 0 2) (List.getD [(4607182418800017408 : Nat), s, t] (Int.toNat (0 : Int)) (0 : Nat)) 0)) (P := fun z => [(axisF (frameI f 2 0) t (axisF (frameI f 1 0) s (axisF (frameI f 0 0) (List.getD [(4607182418800017408 : Nat), s, t] (Int.toNat (0 : Int)) (0 : Nat)) 0))), (axisF (frameI f 2 1) t (axisF (frameI f 1 1) s (axisF (frameI f 0 1) (List.getD [(4607182418800017408 : Nat), s, t] (Int.toNat (0 : Int)) (0 : Nat)) 0))), z] = [(axisF (frameI f 2 0) t (axisF (frameI f 1 0) s (axisF (frameI f 0 0) (List.getD [(4607182418800017408 : Nat), s, t] (Int.toNat (0 : Int)) (0 : Nat)) 0))), (axisF (frameI f 2 1) t (axisF (frameI f 1 1) s (axisF (frameI f 0 1) (List.getD [(4607182418800017408 : Nat), s, t] (Int.toNat (0 : Int)) (0 : Nat)) 0))), (axisF (frameI f 1 2) s (axisF (frameI f 0 2) (List.getD [(4607182418800017408 : Nat), s, t] (Int.toNat (0 : Int)) (0 : Nat)) 0))]) rfl (fun e => ⟨trivial, ⟨by decide, by decide, Nat.le_refl 3⟩, rfl, e⟩) (fun e => ⟨trivial, ⟨by decide, by decide, Nat.le_refl 3⟩, rfl, e⟩) (fun e => ⟨rfl, e⟩)⟩, ?_⟩
  rintro ⟨⟩ ⟨_, ⟨⟩⟩ rfl
  refine ⟨fun _ y => y.1 = [(axisF (frameI f 2 0) t (axisF (frameI f 1 0) s (axisF (frameI f 0 0) (List.getD [(4607182418800017408 : Nat), s, t] (Int.toNat (0 : Int)) (0 : Nat)) 0))), (axisF (frameI f 2 1) t (axisF (frameI f 1 1) s (axisF (frameI f 0 1) (List.getD [(4607182418800017408 : Nat), s, t] (Int.toNat (0 : Int)) (0 : Nat)) 0))), (axisF (frameI f 2 2) t (axisF (frameI f 1 2) s (axisF (frameI f 0 2) (List.getD [(4607182418800017408 : Nat), s, t] (Int.toNat (0 : Int)) (0 : Nat)) 0)))], ⟨by decide, hfb, by decide, by decide, br_axis (m := (frameI f 2 2)) (v := t) (c := (axisF (frameI f 1 2) s (axisF (frameI f 0 2) (List.getD [(4607182418800017408 : Nat), s, t] (Int.toNat (0 : Int)) (0 : Nat)) 0))) (P := fun z => [(axisF (frameI f 2 0) t (axisF (frameI f 1 0) s (axisF (frameI f 0 0) (List.getD [(4607182418800017408 : Nat), s, t] (Int.toNat (0 : Int)) (0 : Nat)) 0))), (axisF (frameI f 2 1) t (axisF (frameI f 1 1) s (axisF (frameI f 0 1) (List.getD [(4607182418800017408 : Nat), s, t] (Int.toNat (0 : Int)) (0 : Nat)) 0))), z] = [(axisF (frameI f 2 0) t (axisF (frameI f 1 0) s (axisF (frameI f 0 0) (List.getD [(4607182418800017408 : Nat), s, t] (Int.toNat (0 : Int)) (0 : Nat)) 0))), (axisF (frameI f 2 1) t (axisF (frameI f 1 1) s (axisF (frameI f 0 1) (List.getD [(4607182418800017408 : Nat), s, t] (Int.toNat (0 : Int)) (0 : Nat)) 0))), (axisF (frameI f 2 2) t (axisF (frameI f 1 2) s (axisF (frameI f 0 2) (List.getD [(4607182418800017408 : Nat), s, t] (Int.toNat (0 : Int)) (0 : Nat)) 0)))]) rfl (fun e => ⟨trivial, ⟨by decide, by decide, Nat.le_refl 3⟩, rfl, e⟩) (fun e => ⟨trivial, ⟨by decide, by decide, Nat.le_refl 3⟩, rfl, e⟩) (fun e => ⟨rfl, e⟩)⟩, ?_⟩
  rintro ⟨⟩ ⟨_, ⟨⟩⟩ rfl
  refine ⟨⟨by decide, by decide, Nat.le_refl 3⟩, ⟨by decide, by decide, Nat.le_refl 3⟩, ⟨by decide, by decide, Nat.le_refl 3⟩, ⟨axisP_w f hs ht 0, axisP_w f hs ht 1, axisP_w f hs ht 2⟩, rfl⟩
def Fx_geom_Corner := fun (n f i j : Int) (post : (Nat × Nat × Nat) × Bool × Unit → Prop) => ∃ (h : I64 n), ∀ (a : Bool), a = ((cellsR n).fst == (0 : Int)) → Br a (post (((0 : Nat),
  (0 : Nat), (0 : Nat)), Bool.false, ())) (∀ (a : Bool), a = decide (f < (0 : Int)) → Br a (post (((0 : Nat), (0 : Nat), (0 : Nat)), Bool.false, ())) (∀ (a : Bool), a = decide (f >
  (5 : Int)) → Br a (post (((0 : Nat), (0 : Nat), (0 : Nat)), Bool.false, ())) (∀ (a : Bool), a = decide (i < (0 : Int)) → Br a (post (((0 : Nat), (0 : Nat), (0 : Nat)), Bool.false,
  ())) (∀ (a : Bool), a = decide (i > n) → Br a (post (((0 : Nat), (0 : Nat), (0 : Nat)), Bool.false, ())) (∀ (a : Bool), a = decide (j < (0 : Int)) → Br a (post (((0 : Nat), (0 :
  Nat), (0 : Nat)), Bool.false, ())) (∀ (a : Bool), a = decide (j > n) → Br a (post (((0 : Nat), (0 : Nat), (0 : Nat)), Bool.false, ())) (∃ (h : WRatio (IntKind.i64.wrap
  (IntKind.i64.wrap ((2 : Int) * i) - n)) n), ∃ (h : WRatio (IntKind.i64.wrap (IntKind.i64.wrap ((2 : Int) * j) - n)) n), ∃ (h : WPoint f (ratioR (IntKind.i64.wrap (IntKind.i64.wrap
  ((2 : Int) * i) - n)) n).fst (ratioR (IntKind.i64.wrap (IntKind.i64.wrap ((2 : Int) * j) - n)) n).fst), post (((pointR f (ratioR (IntKind.i64.wrap (IntKind.i64.wrap ((2 : Int) *
  i) - n)) n).fst (ratioR (IntKind.i64.wrap (IntKind.i64.wrap ((2 : Int) * j) - n)) n).fst).fst.fst, (pointR f (ratioR (IntKind.i64.wrap (IntKind.i64.wrap ((2 : Int) * i) - n))
  n).fst (ratioR (IntKind.i64.wrap (IntKind.i64.wrap ((2 : Int) * j) - n)) n).fst).fst.snd.fst, (pointR f (ratioR (IntKind.i64.wrap (IntKind.i64.wrap ((2 : Int) * i) - n)) n).fst
  (ratioR (IntKind.i64.wrap (IntKind.i64.wrap ((2 : Int) * j) - n)) n).fst).fst.snd.snd), Bool.true, ()))))))))
theorem Lx_geom_Corner (n : Int) (f : Int) (i : Int) (j : Int) (h : IIII n f i j) : Fx_geom_Corner  n f i j (fun r => r = cornerR n f i j) := by
  obtain ⟨hn, hf, hi, hj⟩ := h
  have bad : cornerOk n f i j = false → (((0 : Nat), (0 : Nat), (0 : Nat)), false, ()) = cornerR n f i j := by
    intro e; unfold cornerR; rw [if_neg (by rw [e]; decide)]
  refine ⟨hn, ?_⟩
  rintro _ rfl
  refine Br.intro (fun e => ?_) fun e0 => ?_
  · have e : cellsI n = 0 := by have e : (cellsI n == 0) = true := e; simpa using e
    refine bad ?_
    cases hg : goodC n with
    | false => unfold cornerOk; rw [hg]; rfl
    | true => rw [cells_good hg] at e; have := sq_bd (goodC_iff.1 hg).1 (goodC_iff.1 hg).2; omega
  have e0 : ¬ cellsI n = 0 := by have e : (cellsI n == 0) = false := e0; simpa using e
  have hg : goodC n = true := by
    cases hg : goodC n with
    | false => exact absurd (cells_bad hg) e0
    | true => rfl
  obtain ⟨n1, n2⟩ := goodC_iff.1 hg
  have no : ¬ (0 ≤ f ∧ f ≤ 5 ∧ 0 ≤ i ∧ i ≤ n ∧ 0 ≤ j ∧ j ≤ n) → cornerOk n f i j = false := by
    intro q
    rw [Bool.eq_false_iff]
    intro w
    unfold cornerOk at w
    simp only [Bool.and_eq_true, decide_eq_true_eq] at w
    omega
  rintro _ rfl
  refine Br.intro (fun e => bad (no (by have e := of_decide_eq_true e; omega))) fun e1 => ?_
  have e1 := of_decide_eq_false e1
  rintro _ rfl
  refine Br.intro (fun e => bad (no (by have e := of_decide_eq_true e; omega))) fun e2 => ?_
  have e2 := of_decide_eq_false e2
  rintro _ rfl
  refine Br.intro (fun e => bad (no (by have e := of_decide_eq_true e; omega))) fun e3 => ?_
  have e3 := of_decide_eq_false e3
  rintro _ rfl
  refine Br.intro (fun e => bad (no (by have e := of_decide_eq_true e; omega))) fun e4 => ?_
  have e4 := of_decide_eq_false e4
  rintro _ rfl
  refine Br.intro (fun e => bad (no (by have e := of_decide_eq_true e; omega))) fun e5 => ?_
  have e5 := of_decide_eq_false e5
  rintro _ rfl
  refine Br.intro (fun e => bad (no (by have e := of_decide_eq_true e; omega))) fun e6 => ?_
  have e6 := of_decide_eq_false e6
  obtain ⟨w1, w2⟩ := ratio_wrap n1 n2 (i := i) (by omega) (by omega)
  obtain ⟨w3, w4⟩ := ratio_wrap n1 n2 (i := j) (by omega) (by omega)
  rw [w1, w3]
  refine ⟨w2, w4, ⟨by omega, by omega, divQF_w _ _, divQF_w _ _⟩, ?_⟩
  have ok : cornerOk n f i j = true := by
    unfold cornerOk
    rw [hg, decide_eq_true (by omega), decide_eq_true (by omega), decide_eq_true (by omega), decide_eq_true (by omega), decide_eq_true (by omega), decide_eq_true (by omega)]
    rfl
  unfold cornerR; rw [if_pos ok]; rfl
def Fx_geom_corners := fun (n c : Int) (post : List (Nat × Nat × Nat) × Bool × Unit → Prop) => ∃ (h : II n c), Br (!(placeR4 n c).snd.snd.snd.fst) (∃ (h : (List.replicate (4 : Nat)
  ((K.flt Go.FloatKind.f64).pair ((K.flt Go.FloatKind.f64).pair (K.flt Go.FloatKind.f64))).dflt).length = (4 : Nat) ∧ (4 : Nat) = (4 : Nat)), ∃ (h : (4 : Nat) = (4 : Nat)), post
  ([((0 : Nat), (0 : Nat), (0 : Nat)), ((0 : Nat), (0 : Nat), (0 : Nat)), ((0 : Nat), (0 : Nat), (0 : Nat)), ((0 : Nat), (0 : Nat), (0 : Nat))], Bool.false, ())) (∃ (h : (0 : Int) ≤
  (0 : Int) ∧ (0 : Int) < (↑(4 : Nat) : Int)), ∃ (h : (List.replicate (2 : Nat) (0 : Int)).length = (2 : Nat) ∧ List.length ([[(0 : Int), (0 : Int)], [(1 : Int), (0 : Int)], [(1 :
  Int), (1 : Int)], [(0 : Int), (1 : Int)]].getD (Int.toNat (0 : Int)) (K.arr (2 : Nat) (K.int IntKind.i64)).dflt) = (2 : Nat)), ∃ (h : (0 : Int) ≤ (0 : Int) ∧ (0 : Int) < (↑(2 :
  Nat) : Int) ∧ (2 : Nat) ≤ List.length ([[(0 : Int), (0 : Int)], [(1 : Int), (0 : Int)], [(1 : Int), (1 : Int)], [(0 : Int), (1 : Int)]].getD (Int.toNat (0 : Int)) (K.arr (2 : Nat)
  (K.int IntKind.i64)).dflt)), ∃ (h : (0 : Int) ≤ (1 : Int) ∧ (1 : Int) < (↑(2 : Nat) : Int) ∧ (2 : Nat) ≤ List.length ([[(0 : Int), (0 : Int)], [(1 : Int), (0 : Int)], [(1 : Int),
  (1 : Int)], [(0 : Int), (1 : Int)]].getD (Int.toNat (0 : Int)) (K.arr (2 : Nat) (K.int IntKind.i64)).dflt)), ∃ (h : IIII n (placeR4 n c).fst (IntKind.i64.wrap ((placeR4 n
  c).snd.fst + List.getD ([[(0 : Int), (0 : Int)], [(1 : Int), (0 : Int)], [(1 : Int), (1 : Int)], [(0 : Int), (1 : Int)]].getD (Int.toNat (0 : Int)) (K.arr (2 : Nat) (K.int
  IntKind.i64)).dflt) (Int.toNat (0 : Int)) (0 : Int))) (IntKind.i64.wrap ((placeR4 n c).snd.snd.fst + List.getD ([[(0 : Int), (0 : Int)], [(1 : Int), (0 : Int)], [(1 : Int), (1 :
  Int)], [(0 : Int), (1 : Int)]].getD (Int.toNat (0 : Int)) (K.arr (2 : Nat) (K.int IntKind.i64)).dflt) (Int.toNat (1 : Int)) (0 : Int)))), ∃ (h : (0 : Int) ≤ (0 : Int) ∧ (0 : Int)
  < (↑(4 : Nat) : Int) ∧ (4 : Nat) ≤ (List.replicate (4 : Nat) ((K.flt Go.FloatKind.f64).pair ((K.flt Go.FloatKind.f64).pair (K.flt Go.FloatKind.f64))).dflt).length), ∃ (h : (0 :
  Int) ≤ IntKind.i64.wrap ((0 : Int) + (1 : Int)) ∧ IntKind.i64.wrap ((0 : Int) + (1 : Int)) < (↑(4 : Nat) : Int)), ∃ (h : (List.replicate (2 : Nat) (0 : Int)).length = (2 : Nat) ∧
  List.length ([[(0 : Int), (0 : Int)], [(1 : Int), (0 : Int)], [(1 : Int), (1 : Int)], [(0 : Int), (1 : Int)]].getD (IntKind.i64.wrap ((0 : Int) + (1 : Int))).toNat (K.arr (2 :
  Nat) (K.int IntKind.i64)).dflt) = (2 : Nat)), ∃ (h : (0 : Int) ≤ (0 : Int) ∧ (0 : Int) < (↑(2 : Nat) : Int) ∧ (2 : Nat) ≤ List.length ([[(0 : Int), (0 : Int)], [(1 : Int), (0 :
  Int)], [(1 : Int), (1 : Int)], [(0 : Int), (1 : Int)]].getD (IntKind.i64.wrap ((0 : Int) + (1 : Int))).toNat (K.arr (2 : Nat) (K.int IntKind.i64)).dflt)), ∃ (h : (0 : Int) ≤ (1 :
  Int) ∧ (1 : Int) < (↑(2 : Nat) : Int) ∧ (2 : Nat) ≤ List.length ([[(0 : Int), (0 : Int)], [(1 : Int), (0 : Int)], [(1 : Int), (1 : Int)], [(0 : Int), (1 : Int)]].getD
  (IntKind.i64.wrap ((0 : Int) + (1 : Int))).toNat (K.arr (2 : Nat) (K.int IntKind.i64)).dflt)), ∃ (h : IIII n (placeR4 n c).fst (IntKind.i64.wrap ((placeR4 n c).snd.fst + List.getD
  ([[(0 : Int), (0 : Int)], [(1 : Int), (0 : Int)], [(1 : Int), (1 : Int)], [(0 : Int), (1 : Int)]].getD (IntKind.i64.wrap ((0 : Int) + (1 : Int))).toNat (K.arr (2 : Nat) (K.int
  IntKind.i64)).dflt) (Int.toNat (0 : Int)) (0 : Int))) (IntKind.i64.wrap ((placeR4 n c).snd.snd.fst + List.getD ([[(0 : Int), (0 : Int)], [(1 : Int), (0 : Int)], [(1 : Int), (1 :
  Int)], [(0 : Int), (1 : Int)]].getD (IntKind.i64.wrap ((0 : Int) + (1 : Int))).toNat (K.arr (2 : Nat) (K.int IntKind.i64)).dflt) (Int.toNat (1 : Int)) (0 : Int)))), ∃ (h : (0 :
  Int) ≤ IntKind.i64.wrap ((0 : Int) + (1 : Int)) ∧ IntKind.i64.wrap ((0 : Int) + (1 : Int)) < (↑(4 : Nat) : Int) ∧ (4 : Nat) ≤ ((List.replicate (4 : Nat) ((K.flt
  Go.FloatKind.f64).pair ((K.flt Go.FloatKind.f64).pair (K.flt Go.FloatKind.f64))).dflt).set (Int.toNat (0 : Int)) (cornerR n (placeR4 n c).fst (IntKind.i64.wrap ((placeR4 n
  c).snd.fst + List.getD ([[(0 : Int), (0 : Int)], [(1 : Int), (0 : Int)], [(1 : Int), (1 : Int)], [(0 : Int), (1 : Int)]].getD (Int.toNat (0 : Int)) (K.arr (2 : Nat) (K.int
  IntKind.i64)).dflt) (Int.toNat (0 : Int)) (0 : Int))) (IntKind.i64.wrap ((placeR4 n c).snd.snd.fst + List.getD ([[(0 : Int), (0 : Int)], [(1 : Int), (0 : Int)], [(1 : Int), (1 :
  Int)], [(0 : Int), (1 : Int)]].getD (Int.toNat (0 : Int)) (K.arr (2 : Nat) (K.int IntKind.i64)).dflt) (Int.toNat (1 : Int)) (0 : Int)))).fst).length), ∃ (h : (0 : Int) ≤
  IntKind.i64.wrap (IntKind.i64.wrap ((0 : Int) + (1 : Int)) + (1 : Int)) ∧ IntKind.i64.wrap (IntKind.i64.wrap ((0 : Int) + (1 : Int)) + (1 : Int)) < (↑(4 : Nat) : Int)), ∃ (h :
  (List.replicate (2 : Nat) (0 : Int)).length = (2 : Nat) ∧ List.length ([[(0 : Int), (0 : Int)], [(1 : Int), (0 : Int)], [(1 : Int), (1 : Int)], [(0 : Int), (1 : Int)]].getD
  (IntKind.i64.wrap (IntKind.i64.wrap ((0 : Int) + (1 : Int)) + (1 : Int))).toNat (K.arr (2 : Nat) (K.int IntKind.i64)).dflt) = (2 : Nat)), ∃ (h : (0 : Int) ≤ (0 : Int) ∧ (0 : Int)
  < (↑(2 : Nat) : Int) ∧ (2 : Nat) ≤ List.length ([[(0 : Int), (0 : Int)], [(1 : Int), (0 : Int)], [(1 : Int), (1 : Int)], [(0 : Int), (1 : Int)]].getD (IntKind.i64.wrap
  (IntKind.i64.wrap ((0 : Int) + (1 : Int)) + (1 : Int))).toNat (K.arr (2 : Nat) (K.int IntKind.i64)).dflt)), ∃ (h : (0 : Int) ≤ (1 : Int) ∧ (1 : Int) < (↑(2 : Nat) : Int) ∧ (2 :
  Nat) ≤ List.length ([[(0 : Int), (0 : Int)], [(1 : Int), (0 : Int)], [(1 : Int), (1 : Int)], [(0 : Int), (1 : Int)]].getD (IntKind.i64.wrap (IntKind.i64.wrap ((0 : Int) + (1 :
  Int)) + (1 : Int))).toNat (K.arr (2 : Nat) (K.int IntKind.i64)).dflt)), ∃ (h : IIII n (placeR4 n c).fst (IntKind.i64.wrap ((placeR4 n c).snd.fst + List.getD ([[(0 : Int), (0 :
  Int)], [(1 : Int), (0 : Int)], [(1 : Int), (1 : Int)], [(0 : Int), (1 : Int)]].getD (IntKind.i64.wrap (IntKind.i64.wrap ((0 : Int) + (1 : Int)) + (1 : Int))).toNat (K.arr (2 :
  Nat) (K.int IntKind.i64)).dflt) (Int.toNat (0 : Int)) (0 : Int))) (IntKind.i64.wrap ((placeR4 n c).snd.snd.fst + List.getD ([[(0 : Int), (0 : Int)], [(1 : Int), (0 : Int)], [(1 :
  Int), (1 : Int)], [(0 : Int), (1 : Int)]].getD (IntKind.i64.wrap (IntKind.i64.wrap ((0 : Int) + (1 : Int)) + (1 : Int))).toNat (K.arr (2 : Nat) (K.int IntKind.i64)).dflt)
  (Int.toNat (1 : Int)) (0 : Int)))), ∃ (h : (0 : Int) ≤ IntKind.i64.wrap (IntKind.i64.wrap ((0 : Int) + (1 : Int)) + (1 : Int)) ∧ IntKind.i64.wrap (IntKind.i64.wrap ((0 : Int) + (1
  : Int)) + (1 : Int)) < (↑(4 : Nat) : Int) ∧ (4 : Nat) ≤ (((List.replicate (4 : Nat) ((K.flt Go.FloatKind.f64).pair ((K.flt Go.FloatKind.f64).pair (K.flt
  Go.FloatKind.f64))).dflt).set (Int.toNat (0 : Int)) (cornerR n (placeR4 n c).fst (IntKind.i64.wrap ((placeR4 n c).snd.fst + List.getD ([[(0 : Int), (0 : Int)], [(1 : Int), (0 :
  Int)], [(1 : Int), (1 : Int)], [(0 : Int), (1 : Int)]].getD (Int.toNat (0 : Int)) (K.arr (2 : Nat) (K.int IntKind.i64)).dflt) (Int.toNat (0 : Int)) (0 : Int))) (IntKind.i64.wrap
  ((placeR4 n c).snd.snd.fst + List.getD ([[(0 : Int), (0 : Int)], [(1 : Int), (0 : Int)], [(1 : Int), (1 : Int)], [(0 : Int), (1 : Int)]].getD (Int.toNat (0 : Int)) (K.arr (2 :
  Nat) (K.int IntKind.i64)).dflt) (Int.toNat (1 : Int)) (0 : Int)))).fst).set (IntKind.i64.wrap ((0 : Int) + (1 : Int))).toNat (cornerR n (placeR4 n c).fst (IntKind.i64.wrap
  ((placeR4 n c).snd.fst + List.getD ([[(0 : Int), (0 : Int)], [(1 : Int), (0 : Int)], [(1 : Int), (1 : Int)], [(0 : Int), (1 : Int)]].getD (IntKind.i64.wrap ((0 : Int) + (1 :
  Int))).toNat (K.arr (2 : Nat) (K.int IntKind.i64)).dflt) (Int.toNat (0 : Int)) (0 : Int))) (IntKind.i64.wrap ((placeR4 n c).snd.snd.fst + List.getD ([[(0 : Int), (0 : Int)], [(1 :
  Int), (0 : Int)], [(1 : Int), (1 : Int)], [(0 : Int), (1 : Int)]].getD (IntKind.i64.wrap ((0 : Int) + (1 : Int))).toNat (K.arr (2 : Nat) (K.int IntKind.i64)).dflt) (Int.toNat (1 :
  Int)) (0 : Int)))).fst).length), ∃ (h : (0 : Int) ≤ IntKind.i64.wrap (IntKind.i64.wrap (IntKind.i64.wrap ((0 : Int) + (1 : Int)) + (1 : Int)) + (1 : Int)) ∧ IntKind.i64.wrap
  (IntKind.i64.wrap (IntKind.i64.wrap ((0 : Int) + (1 : Int)) + (1 : Int)) + (1 : Int)) < (↑(4 : Nat) : Int)), ∃ (h : (List.replicate (2 : Nat) (0 : Int)).length = (2 : Nat) ∧
  List.length ([[(0 : Int), (0 : Int)], [(1 : Int), (0 : Int)], [(1 : Int), (1 : Int)], [(0 : Int), (1 : Int)]].getD (IntKind.i64.wrap (IntKind.i64.wrap (IntKind.i64.wrap ((0 : Int)
  + (1 : Int)) + (1 : Int)) + (1 : Int))).toNat (K.arr (2 : Nat) (K.int IntKind.i64)).dflt) = (2 : Nat)), ∃ (h : (0 : Int) ≤ (0 : Int) ∧ (0 : Int) < (↑(2 : Nat) : Int) ∧ (2 : Nat) ≤
  List.length ([[(0 : Int), (0 : Int)], [(1 : Int), (0 : Int)], [(1 : Int), (1 : Int)], [(0 : Int), (1 : Int)]].getD (IntKind.i64.wrap (IntKind.i64.wrap (IntKind.i64.wrap ((0 : Int)
  + (1 : Int)) + (1 : Int)) + (1 : Int))).toNat (K.arr (2 : Nat) (K.int IntKind.i64)).dflt)), ∃ (h : (0 : Int) ≤ (1 : Int) ∧ (1 : Int) < (↑(2 : Nat) : Int) ∧ (2 : Nat) ≤ List.length
  ([[(0 : Int), (0 : Int)], [(1 : Int), (0 : Int)], [(1 : Int), (1 : Int)], [(0 : Int), (1 : Int)]].getD (IntKind.i64.wrap (IntKind.i64.wrap (IntKind.i64.wrap ((0 : Int) + (1 :
  Int)) + (1 : Int)) + (1 : Int))).toNat (K.arr (2 : Nat) (K.int IntKind.i64)).dflt)), ∃ (h : IIII n (placeR4 n c).fst (IntKind.i64.wrap ((placeR4 n c).snd.fst + List.getD ([[(0 :
  Int), (0 : Int)], [(1 : Int), (0 : Int)], [(1 : Int), (1 : Int)], [(0 : Int), (1 : Int)]].getD (IntKind.i64.wrap (IntKind.i64.wrap (IntKind.i64.wrap ((0 : Int) + (1 : Int)) + (1 :
  Int)) + (1 : Int))).toNat (K.arr (2 : Nat) (K.int IntKind.i64)).dflt) (Int.toNat (0 : Int)) (0 : Int))) (IntKind.i64.wrap ((placeR4 n c).snd.snd.fst + List.getD ([[(0 : Int), (0 :
  Int)], [(1 : Int), (0 : Int)], [(1 : Int), (1 : Int)], [(0 : Int), (1 : Int)]].getD (IntKind.i64.wrap (IntKind.i64.wrap (IntKind.i64.wrap ((0 : Int) + (1 : Int)) + (1 : Int)) + (1
  : Int))).toNat (K.arr (2 : Nat) (K.int IntKind.i64)).dflt) (Int.toNat (1 : Int)) (0 : Int)))), ∃ (h : (0 : Int) ≤ IntKind.i64.wrap (IntKind.i64.wrap (IntKind.i64.wrap ((0 : Int) +
  (1 : Int)) + (1 : Int)) + (1 : Int)) ∧ IntKind.i64.wrap (IntKind.i64.wrap (IntKind.i64.wrap ((0 : Int) + (1 : Int)) + (1 : Int)) + (1 : Int)) < (↑(4 : Nat) : Int) ∧ (4 : Nat) ≤
  ((((List.replicate (4 : Nat) ((K.flt Go.FloatKind.f64).pair ((K.flt Go.FloatKind.f64).pair (K.flt Go.FloatKind.f64))).dflt).set (Int.toNat (0 : Int)) (cornerR n (placeR4 n c).fst
  (IntKind.i64.wrap ((placeR4 n c).snd.fst + List.getD ([[(0 : Int), (0 : Int)], [(1 : Int), (0 : Int)], [(1 : Int), (1 : Int)], [(0 : Int), (1 : Int)]].getD (Int.toNat (0 : Int))
  (K.arr (2 : Nat) (K.int IntKind.i64)).dflt) (Int.toNat (0 : Int)) (0 : Int))) (IntKind.i64.wrap ((placeR4 n c).snd.snd.fst + List.getD ([[(0 : Int), (0 : Int)], [(1 : Int), (0 :
  Int)], [(1 : Int), (1 : Int)], [(0 : Int), (1 : Int)]].getD (Int.toNat (0 : Int)) (K.arr (2 : Nat) (K.int IntKind.i64)).dflt) (Int.toNat (1 : Int)) (0 : Int)))).fst).set
  (IntKind.i64.wrap ((0 : Int) + (1 : Int))).toNat (cornerR n (placeR4 n c).fst (IntKind.i64.wrap ((placeR4 n c).snd.fst + List.getD ([[(0 : Int), (0 : Int)], [(1 : Int), (0 :
  Int)], [(1 : Int), (1 : Int)], [(0 : Int), (1 : Int)]].getD (IntKind.i64.wrap ((0 : Int) + (1 : Int))).toNat (K.arr (2 : Nat) (K.int IntKind.i64)).dflt) (Int.toNat (0 : Int)) (0 :
  Int))) (IntKind.i64.wrap ((placeR4 n c).snd.snd.fst + List.getD ([[(0 : Int), (0 : Int)], [(1 : Int), (0 : Int)], [(1 : Int), (1 : Int)], [(0 : Int), (1 : Int)]].getD
  (IntKind.i64.wrap ((0 : Int) + (1 : Int))).toNat (K.arr (2 : Nat) (K.int IntKind.i64)).dflt) (Int.toNat (1 : Int)) (0 : Int)))).fst).set (IntKind.i64.wrap (IntKind.i64.wrap ((0 :
  Int) + (1 : Int)) + (1 : Int))).toNat (cornerR n (placeR4 n c).fst (IntKind.i64.wrap ((placeR4 n c).snd.fst + List.getD ([[(0 : Int), (0 : Int)], [(1 : Int), (0 : Int)], [(1 :
  Int), (1 : Int)], [(0 : Int), (1 : Int)]].getD (IntKind.i64.wrap (IntKind.i64.wrap ((0 : Int) + (1 : Int)) + (1 : Int))).toNat (K.arr (2 : Nat) (K.int IntKind.i64)).dflt)
  (Int.toNat (0 : Int)) (0 : Int))) (IntKind.i64.wrap ((placeR4 n c).snd.snd.fst + List.getD ([[(0 : Int), (0 : Int)], [(1 : Int), (0 : Int)], [(1 : Int), (1 : Int)], [(0 : Int), (1
  : Int)]].getD (IntKind.i64.wrap (IntKind.i64.wrap ((0 : Int) + (1 : Int)) + (1 : Int))).toNat (K.arr (2 : Nat) (K.int IntKind.i64)).dflt) (Int.toNat (1 : Int)) (0 :
  Int)))).fst).length), ∃ (h : (((((List.replicate (4 : Nat) ((K.flt Go.FloatKind.f64).pair ((K.flt Go.FloatKind.f64).pair (K.flt Go.FloatKind.f64))).dflt).set (Int.toNat (0 : Int))
  (cornerR n (placeR4 n c).fst (IntKind.i64.wrap ((placeR4 n c).snd.fst + List.getD ([[(0 : Int), (0 : Int)], [(1 : Int), (0 : Int)], [(1 : Int), (1 : Int)], [(0 : Int), (1 :
  Int)]].getD (Int.toNat (0 : Int)) (K.arr (2 : Nat) (K.int IntKind.i64)).dflt) (Int.toNat (0 : Int)) (0 : Int))) (IntKind.i64.wrap ((placeR4 n c).snd.snd.fst + List.getD ([[(0 :
  Int), (0 : Int)], [(1 : Int), (0 : Int)], [(1 : Int), (1 : Int)], [(0 : Int), (1 : Int)]].getD (Int.toNat (0 : Int)) (K.arr (2 : Nat) (K.int IntKind.i64)).dflt) (Int.toNat (1 :
  Int)) (0 : Int)))).fst).set (IntKind.i64.wrap ((0 : Int) + (1 : Int))).toNat (cornerR n (placeR4 n c).fst (IntKind.i64.wrap ((placeR4 n c).snd.fst + List.getD ([[(0 : Int), (0 :
  Int)], [(1 : Int), (0 : Int)], [(1 : Int), (1 : Int)], [(0 : Int), (1 : Int)]].getD (IntKind.i64.wrap ((0 : Int) + (1 : Int))).toNat (K.arr (2 : Nat) (K.int IntKind.i64)).dflt)
  (Int.toNat (0 : Int)) (0 : Int))) (IntKind.i64.wrap ((placeR4 n c).snd.snd.fst + List.getD ([[(0 : Int), (0 : Int)], [(1 : Int), (0 : Int)], [(1 : Int), (1 : Int)], [(0 : Int), (1
  : Int)]].getD (IntKind.i64.wrap ((0 : Int) + (1 : Int))).toNat (K.arr (2 : Nat) (K.int IntKind.i64)).dflt) (Int.toNat (1 : Int)) (0 : Int)))).fst).set (IntKind.i64.wrap
  (IntKind.i64.wrap ((0 : Int) + (1 : Int)) + (1 : Int))).toNat (cornerR n (placeR4 n c).fst (IntKind.i64.wrap ((placeR4 n c).snd.fst + List.getD ([[(0 : Int), (0 : Int)], [(1 :
  Int), (0 : Int)], [(1 : Int), (1 : Int)], [(0 : Int), (1 : Int)]].getD (IntKind.i64.wrap (IntKind.i64.wrap ((0 : Int) + (1 : Int)) + (1 : Int))).toNat (K.arr (2 : Nat) (K.int
  IntKind.i64)).dflt) (Int.toNat (0 : Int)) (0 : Int))) (IntKind.i64.wrap ((placeR4 n c).snd.snd.fst + List.getD ([[(0 : Int), (0 : Int)], [(1 : Int), (0 : Int)], [(1 : Int), (1 :
  Int)], [(0 : Int), (1 : Int)]].getD (IntKind.i64.wrap (IntKind.i64.wrap ((0 : Int) + (1 : Int)) + (1 : Int))).toNat (K.arr (2 : Nat) (K.int IntKind.i64)).dflt) (Int.toNat (1 :
  Int)) (0 : Int)))).fst).set (IntKind.i64.wrap (IntKind.i64.wrap (IntKind.i64.wrap ((0 : Int) + (1 : Int)) + (1 : Int)) + (1 : Int))).toNat (cornerR n (placeR4 n c).fst
  (IntKind.i64.wrap ((placeR4 n c).snd.fst + List.getD ([[(0 : Int), (0 : Int)], [(1 : Int), (0 : Int)], [(1 : Int), (1 : Int)], [(0 : Int), (1 : Int)]].getD (IntKind.i64.wrap
  (IntKind.i64.wrap (IntKind.i64.wrap ((0 : Int) + (1 : Int)) + (1 : Int)) + (1 : Int))).toNat (K.arr (2 : Nat) (K.int IntKind.i64)).dflt) (Int.toNat (0 : Int)) (0 : Int)))
  (IntKind.i64.wrap ((placeR4 n c).snd.snd.fst + List.getD ([[(0 : Int), (0 : Int)], [(1 : Int), (0 : Int)], [(1 : Int), (1 : Int)], [(0 : Int), (1 : Int)]].getD (IntKind.i64.wrap
  (IntKind.i64.wrap (IntKind.i64.wrap ((0 : Int) + (1 : Int)) + (1 : Int)) + (1 : Int))).toNat (K.arr (2 : Nat) (K.int IntKind.i64)).dflt) (Int.toNat (1 : Int)) (0 :
  Int)))).fst).length = (4 : Nat)), ∃ (h : (List.replicate (4 : Nat) ((K.flt Go.FloatKind.f64).pair ((K.flt Go.FloatKind.f64).pair (K.flt Go.FloatKind.f64))).dflt).length = (4 :
  Nat) ∧ (((((List.replicate (4 : Nat) ((K.flt Go.FloatKind.f64).pair ((K.flt Go.FloatKind.f64).pair (K.flt Go.FloatKind.f64))).dflt).set (Int.toNat (0 : Int)) (cornerR n (placeR4 n
  c).fst (IntKind.i64.wrap ((placeR4 n c).snd.fst + List.getD ([[(0 : Int), (0 : Int)], [(1 : Int), (0 : Int)], [(1 : Int), (1 : Int)], [(0 : Int), (1 : Int)]].getD (Int.toNat (0 :
  Int)) (K.arr (2 : Nat) (K.int IntKind.i64)).dflt) (Int.toNat (0 : Int)) (0 : Int))) (IntKind.i64.wrap ((placeR4 n c).snd.snd.fst + List.getD ([[(0 : Int), (0 : Int)], [(1 : Int),
  (0 : Int)], [(1 : Int), (1 : Int)], [(0 : Int), (1 : Int)]].getD (Int.toNat (0 : Int)) (K.arr (2 : Nat) (K.int IntKind.i64)).dflt) (Int.toNat (1 : Int)) (0 : Int)))).fst).set
  (IntKind.i64.wrap ((0 : Int) + (1 : Int))).toNat (cornerR n (placeR4 n c).fst (IntKind.i64.wrap ((placeR4 n c).snd.fst + List.getD ([[(0 : Int), (0 : Int)], [(1 : Int), (0 :
  Int)], [(1 : Int), (1 : Int)], [(0 : Int), (1 : Int)]].getD (IntKind.i64.wrap ((0 : Int) + (1 : Int))).toNat (K.arr (2 : Nat) (K.int IntKind.i64)).dflt) (Int.toNat (0 : Int)) (0 :
  Int))) (IntKind.i64.wrap ((placeR4 n c).snd.snd.fst + List.getD ([[(0 : Int), (0 : Int)], [(1 : Int), (0 : Int)], [(1 : Int), (1 : Int)], [(0 : Int), (1 : Int)]].getD
  (IntKind.i64.wrap ((0 : Int) + (1 : Int))).toNat (K.arr (2 : Nat) (K.int IntKind.i64)).dflt) (Int.toNat (1 : Int)) (0 : Int)))).fst).set (IntKind.i64.wrap (IntKind.i64.wrap ((0 :
  Int) + (1 : Int)) + (1 : Int))).toNat (cornerR n (placeR4 n c).fst (IntKind.i64.wrap ((placeR4 n c).snd.fst + List.getD ([[(0 : Int), (0 : Int)], [(1 : Int), (0 : Int)], [(1 :
  Int), (1 : Int)], [(0 : Int), (1 : Int)]].getD (IntKind.i64.wrap (IntKind.i64.wrap ((0 : Int) + (1 : Int)) + (1 : Int))).toNat (K.arr (2 : Nat) (K.int IntKind.i64)).dflt)
  (Int.toNat (0 : Int)) (0 : Int))) (IntKind.i64.wrap ((placeR4 n c).snd.snd.fst + List.getD ([[(0 : Int), (0 : Int)], [(1 : Int), (0 : Int)], [(1 : Int), (1 : Int)], [(0 : Int), (1
  : Int)]].getD (IntKind.i64.wrap (IntKind.i64.wrap ((0 : Int) + (1 : Int)) + (1 : Int))).toNat (K.arr (2 : Nat) (K.int IntKind.i64)).dflt) (Int.toNat (1 : Int)) (0 :
  Int)))).fst).set (IntKind.i64.wrap (IntKind.i64.wrap (IntKind.i64.wrap ((0 : Int) + (1 : Int)) + (1 : Int)) + (1 : Int))).toNat (cornerR n (placeR4 n c).fst (IntKind.i64.wrap
  ((placeR4 n c).snd.fst + List.getD ([[(0 : Int), (0 : Int)], [(1 : Int), (0 : Int)], [(1 : Int), (1 : Int)], [(0 : Int), (1 : Int)]].getD (IntKind.i64.wrap (IntKind.i64.wrap
  (IntKind.i64.wrap ((0 : Int) + (1 : Int)) + (1 : Int)) + (1 : Int))).toNat (K.arr (2 : Nat) (K.int IntKind.i64)).dflt) (Int.toNat (0 : Int)) (0 : Int))) (IntKind.i64.wrap
  ((placeR4 n c).snd.snd.fst + List.getD ([[(0 : Int), (0 : Int)], [(1 : Int), (0 : Int)], [(1 : Int), (1 : Int)], [(0 : Int), (1 : Int)]].getD (IntKind.i64.wrap (IntKind.i64.wrap
  (IntKind.i64.wrap ((0 : Int) + (1 : Int)) + (1 : Int)) + (1 : Int))).toNat (K.arr (2 : Nat) (K.int IntKind.i64)).dflt) (Int.toNat (1 : Int)) (0 : Int)))).fst).length = (4 : Nat)),
  ∃ (h : (((((List.replicate (4 : Nat) ((K.flt Go.FloatKind.f64).pair ((K.flt Go.FloatKind.f64).pair (K.flt Go.FloatKind.f64))).dflt).set (Int.toNat (0 : Int)) (cornerR n (placeR4 n
  c).fst (IntKind.i64.wrap ((placeR4 n c).snd.fst + List.getD ([[(0 : Int), (0 : Int)], [(1 : Int), (0 : Int)], [(1 : Int), (1 : Int)], [(0 : Int), (1 : Int)]].getD (Int.toNat (0 :
  Int)) (K.arr (2 : Nat) (K.int IntKind.i64)).dflt) (Int.toNat (0 : Int)) (0 : Int))) (IntKind.i64.wrap ((placeR4 n c).snd.snd.fst + List.getD ([[(0 : Int), (0 : Int)], [(1 : Int),
  (0 : Int)], [(1 : Int), (1 : Int)], [(0 : Int), (1 : Int)]].getD (Int.toNat (0 : Int)) (K.arr (2 : Nat) (K.int IntKind.i64)).dflt) (Int.toNat (1 : Int)) (0 : Int)))).fst).set
  (IntKind.i64.wrap ((0 : Int) + (1 : Int))).toNat (cornerR n (placeR4 n c).fst (IntKind.i64.wrap ((placeR4 n c).snd.fst + List.getD ([[(0 : Int), (0 : Int)], [(1 : Int), (0 :
  Int)], [(1 : Int), (1 : Int)], [(0 : Int), (1 : Int)]].getD (IntKind.i64.wrap ((0 : Int) + (1 : Int))).toNat (K.arr (2 : Nat) (K.int IntKind.i64)).dflt) (Int.toNat (0 : Int)) (0 :
  Int))) (IntKind.i64.wrap ((placeR4 n c).snd.snd.fst + List.getD ([[(0 : Int), (0 : Int)], [(1 : Int), (0 : Int)], [(1 : Int), (1 : Int)], [(0 : Int), (1 : Int)]].getD
  (IntKind.i64.wrap ((0 : Int) + (1 : Int))).toNat (K.arr (2 : Nat) (K.int IntKind.i64)).dflt) (Int.toNat (1 : Int)) (0 : Int)))).fst).set (IntKind.i64.wrap (IntKind.i64.wrap ((0 :
  Int) + (1 : Int)) + (1 : Int))).toNat (cornerR n (placeR4 n c).fst (IntKind.i64.wrap ((placeR4 n c).snd.fst + List.getD ([[(0 : Int), (0 : Int)], [(1 : Int), (0 : Int)], [(1 :
  Int), (1 : Int)], [(0 : Int), (1 : Int)]].getD (IntKind.i64.wrap (IntKind.i64.wrap ((0 : Int) + (1 : Int)) + (1 : Int))).toNat (K.arr (2 : Nat) (K.int IntKind.i64)).dflt)
  (Int.toNat (0 : Int)) (0 : Int))) (IntKind.i64.wrap ((placeR4 n c).snd.snd.fst + List.getD ([[(0 : Int), (0 : Int)], [(1 : Int), (0 : Int)], [(1 : Int), (1 : Int)], [(0 : Int), (1
  : Int)]].getD (IntKind.i64.wrap (IntKind.i64.wrap ((0 : Int) + (1 : Int)) + (1 : Int))).toNat (K.arr (2 : Nat) (K.int IntKind.i64)).dflt) (Int.toNat (1 : Int)) (0 :
  Int)))).fst).set (IntKind.i64.wrap (IntKind.i64.wrap (IntKind.i64.wrap ((0 : Int) + (1 : Int)) + (1 : Int)) + (1 : Int))).toNat (cornerR n (placeR4 n c).fst (IntKind.i64.wrap
  ((placeR4 n c).snd.fst + List.getD ([[(0 : Int), (0 : Int)], [(1 : Int), (0 : Int)], [(1 : Int), (1 : Int)], [(0 : Int), (1 : Int)]].getD (IntKind.i64.wrap (IntKind.i64.wrap
  (IntKind.i64.wrap ((0 : Int) + (1 : Int)) + (1 : Int)) + (1 : Int))).toNat (K.arr (2 : Nat) (K.int IntKind.i64)).dflt) (Int.toNat (0 : Int)) (0 : Int))) (IntKind.i64.wrap
  ((placeR4 n c).snd.snd.fst + List.getD ([[(0 : Int), (0 : Int)], [(1 : Int), (0 : Int)], [(1 : Int), (1 : Int)], [(0 : Int), (1 : Int)]].getD (IntKind.i64.wrap (IntKind.i64.wrap
  (IntKind.i64.wrap ((0 : Int) + (1 : Int)) + (1 : Int)) + (1 : Int))).toNat (K.arr (2 : Nat) (K.int IntKind.i64)).dflt) (Int.toNat (1 : Int)) (0 : Int)))).fst).length = (4 : Nat)),
  post (((((List.replicate (4 : Nat) ((K.flt Go.FloatKind.f64).pair ((K.flt Go.FloatKind.f64).pair (K.flt Go.FloatKind.f64))).dflt).set (Int.toNat (0 : Int)) (cornerR n (placeR4 n
  c).fst (IntKind.i64.wrap ((placeR4 n c).snd.fst + List.getD ([[(0 : Int), (0 : Int)], [(1 : Int), (0 : Int)], [(1 : Int), (1 : Int)], [(0 : Int), (1 : Int)]].getD (Int.toNat (0 :
  Int)) (K.arr (2 : Nat) (K.int IntKind.i64)).dflt) (Int.toNat (0 : Int)) (0 : Int))) (IntKind.i64.wrap ((placeR4 n c).snd.snd.fst + List.getD ([[(0 : Int), (0 : Int)], [(1 : Int),
  (0 : Int)], [(1 : Int), (1 : Int)], [(0 : Int), (1 : Int)]].getD (Int.toNat (0 : Int)) (K.arr (2 : Nat) (K.int IntKind.i64)).dflt) (Int.toNat (1 : Int)) (0 : Int)))).fst).set
  (IntKind.i64.wrap ((0 : Int) + (1 : Int))).toNat (cornerR n (placeR4 n c).fst (IntKind.i64.wrap ((placeR4 n c).snd.fst + List.getD ([[(0 : Int), (0 : Int)], [(1 : Int), (0 :
  Int)], [(1 : Int), (1 : Int)], [(0 : Int), (1 : Int)]].getD (IntKind.i64.wrap ((0 : Int) + (1 : Int))).toNat (K.arr (2 : Nat) (K.int IntKind.i64)).dflt) (Int.toNat (0 : Int)) (0 :
  Int))) (IntKind.i64.wrap ((placeR4 n c).snd.snd.fst + List.getD ([[(0 : Int), (0 : Int)], [(1 : Int), (0 : Int)], [(1 : Int), (1 : Int)], [(0 : Int), (1 : Int)]].getD
  (IntKind.i64.wrap ((0 : Int) + (1 : Int))).toNat (K.arr (2 : Nat) (K.int IntKind.i64)).dflt) (Int.toNat (1 : Int)) (0 : Int)))).fst).set (IntKind.i64.wrap (IntKind.i64.wrap ((0 :
  Int) + (1 : Int)) + (1 : Int))).toNat (cornerR n (placeR4 n c).fst (IntKind.i64.wrap ((placeR4 n c).snd.fst + List.getD ([[(0 : Int), (0 : Int)], [(1 : Int), (0 : Int)], [(1 :
  Int), (1 : Int)], [(0 : Int), (1 : Int)]].getD (IntKind.i64.wrap (IntKind.i64.wrap ((0 : Int) + (1 : Int)) + (1 : Int))).toNat (K.arr (2 : Nat) (K.int IntKind.i64)).dflt)
  (Int.toNat (0 : Int)) (0 : Int))) (IntKind.i64.wrap ((placeR4 n c).snd.snd.fst + List.getD ([[(0 : Int), (0 : Int)], [(1 : Int), (0 : Int)], [(1 : Int), (1 : Int)], [(0 : Int), (1
  : Int)]].getD (IntKind.i64.wrap (IntKind.i64.wrap ((0 : Int) + (1 : Int)) + (1 : Int))).toNat (K.arr (2 : Nat) (K.int IntKind.i64)).dflt) (Int.toNat (1 : Int)) (0 :
  Int)))).fst).set (IntKind.i64.wrap (IntKind.i64.wrap (IntKind.i64.wrap ((0 : Int) + (1 : Int)) + (1 : Int)) + (1 : Int))).toNat (cornerR n (placeR4 n c).fst (IntKind.i64.wrap
  ((placeR4 n c).snd.fst + List.getD ([[(0 : Int), (0 : Int)], [(1 : Int), (0 : Int)], [(1 : Int), (1 : Int)], [(0 : Int), (1 : Int)]].getD (IntKind.i64.wrap (IntKind.i64.wrap
  (IntKind.i64.wrap ((0 : Int) + (1 : Int)) + (1 : Int)) + (1 : Int))).toNat (K.arr (2 : Nat) (K.int IntKind.i64)).dflt) (Int.toNat (0 : Int)) (0 : Int))) (IntKind.i64.wrap
  ((placeR4 n c).snd.snd.fst + List.getD ([[(0 : Int), (0 : Int)], [(1 : Int), (0 : Int)], [(1 : Int), (1 : Int)], [(0 : Int), (1 : Int)]].getD (IntKind.i64.wrap (IntKind.i64.wrap
  (IntKind.i64.wrap ((0 : Int) + (1 : Int)) + (1 : Int)) + (1 : Int))).toNat (K.arr (2 : Nat) (K.int IntKind.i64)).dflt) (Int.toNat (1 : Int)) (0 : Int)))).fst, Bool.true, ()))
theorem Lx_geom_corners (n : Int) (c : Int) (h : II n c) : Fx_geom_corners  n c (fun r => r = cornersR n c) := by
  obtain ⟨hn, hc⟩ := h
  refine ⟨⟨hn, hc⟩, Br.intro (fun e => ?_) fun e => ?_⟩
  · refine ⟨⟨by decide, by decide⟩, by decide, ?_⟩
    have ok : placeOk n c = false := by
      cases q : placeOk n c with
      | false => rfl
      | true => unfold placeR4 at e; rw [if_pos q] at e; cases e
    unfold cornersR; rw [if_neg (by rw [ok]; decide)]
  have ok : placeOk n c = true := by
    cases q : placeOk n c with
    | true => rfl
    | false => unfold placeR4 at e; rw [if_neg (by rw [q]; decide)] at e; cases e
  obtain ⟨h1, h2, h3, h4, h5, h6⟩ := place_facts ok
  obtain ⟨r1, r2, r3, r4, r5, r6⟩ := place_rng ok
  have hp : placeR4 n c = (c / (n * n), c % n, c / n % n, true, ()) := by unfold placeR4; rw [if_pos ok]
  have hf : I64 (c / (n * n)) := ⟨by omega, by omega⟩
  have ho : ∀ x, 0 ≤ x → x ≤ 33 → I64 x := fun x a b => ⟨by omega, by omega⟩
  have w0 : ∀ x, 0 ≤ x → x ≤ 33 → IntKind.i64.wrap (x + 0) = x := fun x a b => by rw [Int.add_zero, wi (ho x a b)]
  have w1 : ∀ x, 0 ≤ x → x ≤ 32 → IntKind.i64.wrap (x + 1) = x + 1 := fun x a b => wi (ho _ (by omega) (by omega))
  have hC : ∀ i j, 0 ≤ i → i ≤ n → 0 ≤ j → j ≤ n → cornerR n (c / (n * n)) i j = (cornerQ n (c / (n * n)) i j, true, ()) := by
    intro i j a1 a2 a3 a4
    unfold cornerR
    rw [if_pos]
    unfold cornerOk
    rw [goodC_iff.2 ⟨h1, h2⟩, decide_eq_true (by omega), decide_eq_true (by omega), decide_eq_true (by omega), decide_eq_true (by omega), decide_eq_true (by omega), decide_eq_true (by omega)]
    rfl
  have a0 := w0 (c % n) (by omega) (by omega)
  have a1 := w1 (c % n) (by omega) (by omega)
  have b0 := w0 (c / n % n) (by omega) (by omega)
  have b1 := w1 (c / n % n) (by omega) (by omega)
  have A0 : I64 (IntKind.i64.wrap (c % n + 0)) := by rw [a0]; exact ho _ (by omega) (by omega)
  have A1 : I64 (IntKind.i64.wrap (c % n + 1)) := by rw [a1]; exact ho _ (by omega) (by omega)
  have B0 : I64 (IntKind.i64.wrap (c / n % n + 0)) := by rw [b0]; exact ho _ (by omega) (by omega)
  have B1 : I64 (IntKind.i64.wrap (c / n % n + 1)) := by rw [b1]; exact ho _ (by omega) (by omega)
  rw [hp]
  refine ⟨by decide, ⟨by decide, by decide⟩, ⟨by decide, by decide, by decide⟩, ⟨by decide, by decide, by decide⟩, ⟨hn, hf, A0, B0⟩, ⟨by decide, by decide, Nat.le_refl 4⟩,
    by decide, ⟨by decide, by decide⟩, ⟨by decide, by decide, by decide⟩, ⟨by decide, by decide, by decide⟩, ⟨hn, hf, A1, B0⟩, ⟨by decide, by decide, Nat.le_refl 4⟩,
    by decide, ⟨by decide, by decide⟩, ⟨by decide, by decide, by decide⟩, ⟨by decide, by decide, by decide⟩, ⟨hn, hf, A1, B1⟩, ⟨by decide, by decide, Nat.le_refl 4⟩,
    by decide, ⟨by decide, by decide⟩, ⟨by decide, by decide, by decide⟩, ⟨by decide, by decide, by decide⟩, ⟨hn, hf, A0, B1⟩, ⟨by decide, by decide, Nat.le_refl 4⟩, rfl, ⟨rfl, rfl⟩, rfl, ?_⟩
  show ([(cornerR n (c / (n * n)) (IntKind.i64.wrap (c % n + 0)) (IntKind.i64.wrap (c / n % n + 0))).1, (cornerR n (c / (n * n)) (IntKind.i64.wrap (c % n + 1)) (IntKind.i64.wrap (c / n % n + 0))).1, (cornerR n (c / (n * n)) (IntKind.i64.wrap (c % n + 1)) (IntKind.i64.wrap (c / n % n + 1))).1, (cornerR n (c / (n * n)) (IntKind.i64.wrap (c % n + 0)) (IntKind.i64.wrap (c / n % n + 1))).1], true, ()) = _
  rw [a0, a1, b0, b1, hC _ _ (by omega) (by omega) (by omega) (by omega), hC _ _ (by omega) (by omega) (by omega) (by omega), hC _ _ (by omega) (by omega) (by omega) (by omega), hC _ _ (by omega) (by omega) (by omega) (by omega)]
  unfold cornersR; rw [if_pos ok]
def Fx_geom_Area := fun (n c : Int) (post : Int × Unit → Prop) => ∃ (h : II n c), ∃ (h : (List.replicate (4 : Nat) ((K.flt Go.FloatKind.f64).pair ((K.flt Go.FloatKind.f64).pair
  (K.flt Go.FloatKind.f64))).dflt).length = (4 : Nat) ∧ (cornersR n c).fst.length = (4 : Nat)), Br (!(cornersR n c).snd.fst) (post ((0 : Int), ())) (∃ (h : (0 : Int) ≤ (2 : Int) ∧
  (2 : Int) < (↑(4 : Nat) : Int) ∧ (4 : Nat) ≤ (cornersR n c).fst.length), ∃ (h : (0 : Int) ≤ (0 : Int) ∧ (0 : Int) < (↑(4 : Nat) : Int) ∧ (4 : Nat) ≤ (cornersR n c).fst.length), ∃
  (h : WV2 ((cornersR n c).fst.getD (Int.toNat (2 : Int)) ((K.flt Go.FloatKind.f64).pair ((K.flt Go.FloatKind.f64).pair (K.flt Go.FloatKind.f64))).dflt) ((cornersR n c).fst.getD
  (Int.toNat (0 : Int)) ((K.flt Go.FloatKind.f64).pair ((K.flt Go.FloatKind.f64).pair (K.flt Go.FloatKind.f64))).dflt)), ∃ (h : (0 : Int) ≤ (3 : Int) ∧ (3 : Int) < (↑(4 : Nat) :
  Int) ∧ (4 : Nat) ≤ (cornersR n c).fst.length), ∃ (h : (0 : Int) ≤ (1 : Int) ∧ (1 : Int) < (↑(4 : Nat) : Int) ∧ (4 : Nat) ≤ (cornersR n c).fst.length), ∃ (h : WV2 ((cornersR n
  c).fst.getD (Int.toNat (3 : Int)) ((K.flt Go.FloatKind.f64).pair ((K.flt Go.FloatKind.f64).pair (K.flt Go.FloatKind.f64))).dflt) ((cornersR n c).fst.getD (Int.toNat (1 : Int))
  ((K.flt Go.FloatKind.f64).pair ((K.flt Go.FloatKind.f64).pair (K.flt Go.FloatKind.f64))).dflt)), ∃ (h : True), ∃ (h : WV (crossR (minusR ((cornersR n c).fst.getD (Int.toNat (2 :
  Int)) ((K.flt Go.FloatKind.f64).pair ((K.flt Go.FloatKind.f64).pair (K.flt Go.FloatKind.f64))).dflt) ((cornersR n c).fst.getD (Int.toNat (0 : Int)) ((K.flt Go.FloatKind.f64).pair
  ((K.flt Go.FloatKind.f64).pair (K.flt Go.FloatKind.f64))).dflt)).fst (minusR ((cornersR n c).fst.getD (Int.toNat (3 : Int)) ((K.flt Go.FloatKind.f64).pair ((K.flt
  Go.FloatKind.f64).pair (K.flt Go.FloatKind.f64))).dflt) ((cornersR n c).fst.getD (Int.toNat (1 : Int)) ((K.flt Go.FloatKind.f64).pair ((K.flt Go.FloatKind.f64).pair (K.flt
  Go.FloatKind.f64))).dflt)).fst).fst), ∀ (a : Nat), FRes Go.FloatKind.f64 (Go.FloatKind.f64.format.mul (lengthR (crossR (minusR ((cornersR n c).fst.getD (Int.toNat (2 : Int))
  ((K.flt Go.FloatKind.f64).pair ((K.flt Go.FloatKind.f64).pair (K.flt Go.FloatKind.f64))).dflt) ((cornersR n c).fst.getD (Int.toNat (0 : Int)) ((K.flt Go.FloatKind.f64).pair
  ((K.flt Go.FloatKind.f64).pair (K.flt Go.FloatKind.f64))).dflt)).fst (minusR ((cornersR n c).fst.getD (Int.toNat (3 : Int)) ((K.flt Go.FloatKind.f64).pair ((K.flt
  Go.FloatKind.f64).pair (K.flt Go.FloatKind.f64))).dflt) ((cornersR n c).fst.getD (Int.toNat (1 : Int)) ((K.flt Go.FloatKind.f64).pair ((K.flt Go.FloatKind.f64).pair (K.flt
  Go.FloatKind.f64))).dflt)).fst).fst).fst (4602678819172646912 : Nat)) a → ∀ (a_1 : Nat), FRes Go.FloatKind.f64 (Go.FloatKind.f64.format.mul a (4742290407621132288 : Nat)) a_1 → ∃
  (h : W64 a_1), post (imax (roundR a_1).fst (1 : Int), ()))
theorem Lx_geom_Area (n : Int) (c : Int) (h : II n c) : Fx_geom_Area  n c (fun r => r = areaR n c) := by
  have g0 : ∀ i : Nat, WV ((cornersR n c).fst.getD i ((K.flt Go.FloatKind.f64).pair ((K.flt Go.FloatKind.f64).pair (K.flt Go.FloatKind.f64))).dflt) := corners_w n c
  have hl := corners_len n c
  refine ⟨h, ⟨by decide, hl⟩, ?_⟩
  rw [hl]
  refine Br.intro (fun e => ?_) fun e => ?_
  · rw [corners_ok] at e
    exact congrArg r1 (by unfold areaI; rw [if_neg (by intro q; rw [q] at e; cases e)])
  rw [corners_ok] at e
  have ok : placeOk n c = true := by simpa using e
  refine ⟨⟨by decide, by decide, Nat.le_refl 4⟩, ⟨by decide, by decide, Nat.le_refl 4⟩, ⟨g0 2, g0 0⟩, ⟨by decide, by decide, Nat.le_refl 4⟩, ⟨by decide, by decide, Nat.le_refl 4⟩, ⟨g0 3, g0 1⟩, trivial, crossV_w _ _, ?_⟩
  intro x hx y hy
  obtain ⟨x1, x2⟩ := fmul hx
  obtain ⟨y1, y2⟩ := fmul hy
  refine ⟨y2, congrArg r1 ?_⟩
  have hs : cornersR n c = ([cornerC n c 0 0, cornerC n c 1 0, cornerC n c 1 1, cornerC n c 0 1], true, ()) := by
    unfold cornersR; rw [if_pos ok]; unfold cornerC; rw [Int.add_zero, Int.add_zero]
  have hq : [cornerC n c 0 0, cornerC n c 1 0, cornerC n c 1 1, cornerC n c 0 1] = (cornersR n c).1 := by rw [hs]
  have hx1 : quietF x = mulQ (spanQ n c) halfR := by
    rw [x1]
    exact congrArg (fun z => mulQ z 4602678819172646912) (span_l (z := (0, 0, 0)) hq.symm)
  have hy1 : quietF y = mulQ (mulQ (spanQ n c) halfR) unitArea := by
    rw [y1]
    have u : quietF x = quietF (mulQ (spanQ n c) halfR) := by rw [hx1, mulQ_q]
    exact mulQ_congr u rfl
  show imax (roundI y).1 1 = areaI n c
  unfold areaI
  rw [if_pos ok, round_quiet y2, hy1]
end Go.Lift

set_option linter.unusedVariables false
set_option linter.unusedSimpArgs false
namespace Go.Lift
def Fx_bits_quiet := fun (post : Nat × Unit → Prop) => ∃ (h : True), post ((fromR (9221120237041090561 : Int)).fst, ())
theorem Lx_bits_quiet  : Fx_bits_quiet   (fun r => r = qnR) := by
  exact ⟨trivial, rfl⟩
def Fx_math_Abs := fun (a : Nat) (post : Nat × Unit → Prop) => ∃ (h : True), ∃ (h : True), post ((fromR (Go.bits Go.BinOp.andNot IntKind.u64 (bitsR a).fst (9223372036854775808 :
  Int))).fst, ())
theorem Lx_math_Abs (a : Nat) (h : W64 a) : Fx_math_Abs  a (fun r => r = absR a) := by
  refine ⟨trivial, trivial, ?_⟩
  show r1 (Go.bits .andNot .u64 (a : Int) 9223372036854775808).toNat = _
  rw [andNot_sign h]; rfl
def Fx_math_IsNaN := fun (a : Nat) (post : Bool × Unit → Prop) => ∀ (a_1 : Bool), a_1 = fcmp Go.BinOp.neq (Go.FloatKind.f64.format.order a a) → post (a_1, ())
theorem Lx_math_IsNaN (a : Nat) : Fx_math_IsNaN  a (fun r => r = nanR a) := by
  rintro _ rfl
  exact congrArg r1 (neq_self a)
def Fx_bits_Canon := fun (a : Nat) (post : Nat × Unit → Prop) => ∀ (a_1 : Bool), a_1 = fcmp Go.BinOp.neq (Go.FloatKind.f64.format.order a a) → Br a_1 (∃ (h : True), post (qnR.fst,
  ())) (∀ (a_2 : Bool), a_2 = fcmp Go.BinOp.eql (Go.FloatKind.f64.format.order a (0 : Nat)) → Br a_2 (post ((0 : Nat), ())) (post (a, ())))
theorem Lx_bits_Canon (a : Nat) : Fx_bits_Canon  a (fun r => r = canonR a) := by
  rintro _ rfl
  refine Br.intro (fun e => ⟨trivial, ?_⟩) fun e => ?_
  · have e : isN a = true := (neq_self a).symm.trans e
    exact congrArg r1 (by unfold canonF; rw [if_pos e]; rfl)
  · have e : isN a = false := (neq_self a).symm.trans e
    rintro _ rfl
    refine Br.intro (fun z => ?_) fun z => ?_
    · have z := (eql_zero a).symm.trans z
      rw [e] at z
      exact congrArg r1 (by unfold canonF; rw [e, if_neg (by simp), if_pos (by simpa using z)])
    · have z := (eql_zero a).symm.trans z
      rw [e] at z
      exact congrArg r1 (by unfold canonF; rw [e, if_neg (by simp), if_neg (by simpa using z)])
def Fx_sum_quiet := fun (a : Nat) (post : Nat × Unit → Prop) => ∃ (h : True), ∀ (a_1 : Bool), a_1 = (nanR a).fst → Br a_1 (∃ (h : True), post ((fromR (9221120237041090561 :
  Int)).fst, ())) (post (a, ()))
theorem Lx_sum_quiet (a : Nat) : Fx_sum_quiet  a (fun r => r = quietR a) := by
  refine ⟨trivial, ?_⟩
  rintro _ rfl
  refine Br.intro (fun e => ⟨trivial, ?_⟩) fun e => ?_
  · have e : isN a = true := e
    exact congrArg r1 (by unfold quietF; rw [if_pos e]; rfl)
  · have e : isN a = false := e
    exact congrArg r1 (by unfold quietF; rw [e]; rfl)
def Fx_sum_magnitude := fun (a : Nat) (post : Int × Unit → Prop) => ∃ (h : True), ∃ (h : (0 : Int) ≤ (1 : Int)), post (IntKind.u64.wrap ((bitsR a).fst * (2 : Int) ^ Min.min
  (Int.toNat (1 : Int)) IntKind.u64.bits), ())
theorem Lx_sum_magnitude (a : Nat) (h : W64 a) : Fx_sum_magnitude  a (fun r => r = mag2R a) := by
  refine ⟨trivial, by decide, ?_⟩
  refine congrArg r1 ?_
  show IntKind.u64.wrap ((a : Int) * 2 ^ 1) = _
  rw [IntKind.wrap_u64]; unfold mag2 magI rungOf sw; omega
def Fx_bits_place := fun (a : Nat) (post : Int × Unit → Prop) => ∃ (h : True), ∀ (a_1 : Bool), a_1 = decide ((bitsR a).fst ≥ (9223372036854775808 : Int)) → Br a_1 (post (Go.bits
  Go.BinOp.xor IntKind.u64 (if IntKind.u64.signed = Bool.true then (-1 : Int) else IntKind.u64.max) (bitsR a).fst, ())) (post (Go.bits Go.BinOp.or IntKind.u64 (bitsR a).fst
  (9223372036854775808 : Int), ()))
theorem Lx_bits_place (a : Nat) (h : W64 a) : Fx_bits_place  a (fun r => r = placeR a) := by
  refine ⟨trivial, ?_⟩
  rintro _ rfl
  refine Br.intro (fun e => ?_) fun e => ?_
  · have e : 9223372036854775808 ≤ a := by have := of_decide_eq_true e; dsimp only [bitsR, r1] at this; omega
    refine congrArg r1 ?_
    show Go.bits .xor .u64 _ (a : Int) = _
    unfold placeI; rw [if_pos ((sgn_iff h).2 e)]
    exact xor_ones h
  · have e : a < 9223372036854775808 := by have := of_decide_eq_false e; dsimp only [bitsR, r1] at this; omega
    refine congrArg r1 ?_
    show Go.bits .or .u64 (a : Int) 9223372036854775808 = _
    unfold placeI; rw [if_neg (by rw [sgn_iff h]; omega)]
    exact or_sign e
def Fx_cmp_isNaN_uint64 := fun (a : Int) (post : Bool × Unit → Prop) => ∀ (a_1 : Bool), a_1 = (a != a) → post (a_1, ())
theorem Lx_cmp_isNaN_uint64 (a : Int) : Fx_cmp_isNaN_uint64  a (fun r => r = noR a) := by
  rintro _ rfl
  exact congrArg r1 (by simp)
def Fx_cmp_Compare_uint64 := fun (a b : Int) (post : Int × Unit → Prop) => ∃ (h : True), ∀ (a_1 : Bool), a_1 = (noR a).fst → ∃ (h : True), ∀ (a_2 : Bool), a_2 = (noR b).fst → Br a_1
  (Br a_2 (post ((0 : Int), ())) (post ((-1 : Int), ()))) (Br a_2 (post ((1 : Int), ())) (∀ (a_3 : Bool), a_3 = decide (a < b) → Br a_3 (post ((-1 : Int), ())) (∀ (a_4 : Bool), a_4
  = decide (a > b) → Br a_4 (post ((1 : Int), ())) (post ((0 : Int), ())))))
theorem Lx_cmp_Compare_uint64 (a : Int) (b : Int) : Fx_cmp_Compare_uint64  a b (fun r => r = cmpR a b) := by
  refine ⟨trivial, ?_⟩
  rintro _ rfl
  refine ⟨trivial, ?_⟩
  rintro _ rfl
  refine Br.intro (fun e => by cases e) fun _ => Br.intro (fun e => by cases e) fun _ => ?_
  rintro _ rfl
  refine Br.intro (fun e => ?_) fun e => ?_
  · exact congrArg r1 (by unfold cmpI; rw [if_pos (of_decide_eq_true e)])
  · rintro _ rfl
    refine Br.intro (fun f => ?_) fun f => ?_
    · exact congrArg r1 (by unfold cmpI; rw [if_neg (of_decide_eq_false e), if_pos (of_decide_eq_true f)])
    · exact congrArg r1 (by unfold cmpI; rw [if_neg (of_decide_eq_false e), if_neg (of_decide_eq_false f)])
def Fx_bits_Order := fun (a b : Nat) (post : Int × Unit → Prop) => ∃ (h : W64 a), ∃ (h : W64 b), ∃ (h : True), post ((cmpR (placeR a).fst (placeR b).fst).fst, ())
theorem Lx_bits_Order (a : Nat) (b : Nat) (h : W2 a b) : Fx_bits_Order  a b (fun r => r = ordR a b) := by
  exact ⟨h.1, h.2, trivial, rfl⟩
def Fx_cmp_Or_int := fun (a : List Int) (post : Int × Unit → Prop) => HIs [] [] ∧ ∃ (I : Int × Unit → Unit → Prop), ∃ (μ : Int × Unit → Unit → Nat), I ((0 : Int), ()) () ∧ ∀ (x :
  Int × Unit) (y : Unit), I x y → ∀ (a_1 : Bool), a_1 = decide (x.fst < (↑a.length : Int)) → Br a_1 (∃ (h : (0 : Int) ≤ x.fst ∧ x.fst < (↑a.length : Int)), ∀ (a_2 : Bool), a_2 =
  (a.getD x.fst.toNat (0 : Int) != (0 : Int)) → Br a_2 (post (a.getD x.fst.toNat (0 : Int), ())) (HIs [] [] ∧ I (IntKind.i64.wrap (x.fst + (1 : Int)), ()) () ∧ μ (IntKind.i64.wrap
  (x.fst + (1 : Int)), ()) () < μ x y)) (post ((0 : Int), ()))
theorem Lx_cmp_Or_int (a : List Int) (w : KS.wf [.slice (.int .i64)] (a, ())) : Fx_cmp_Or_int  a (fun r => r = orR a) := by
  have hl : a.length ≤ maxN := w.1.1
  unfold maxN at hl
  refine ⟨rfl, fun x _ => ∃ i : Nat, x.1 = i ∧ i ≤ a.length ∧ firstNZ (a.drop i) = firstNZ a, fun x _ => a.length - x.1.toNat, ⟨0, rfl, by omega, rfl⟩, ?_⟩
  rintro ⟨_, ⟨⟩⟩ _ ⟨i, hi, hil, hn⟩
  dsimp only at hi
  subst hi
  rintro _ rfl
  refine Br.intro (fun e => ?_) fun e => ?_
  · have e : i < a.length := by have := of_decide_eq_true e; dsimp only at this; omega
    have hd : a.drop i = a.getD i 0 :: a.drop (i + 1) := by
      rw [List.drop_eq_getElem_cons e, List.getD_eq_getElem?_getD, List.getElem?_eq_getElem e]; rfl
    rw [hd] at hn
    simp only [Int.toNat_natCast]
    refine ⟨⟨by omega, by omega⟩, ?_⟩
    rintro _ rfl
    refine Br.intro (fun z => ?_) fun z => ⟨rfl, ⟨i + 1, ?_, by omega, ?_⟩, ?_⟩
    · have z : a.getD i 0 ≠ 0 := by simpa using z
      refine congrArg r1 ?_
      rw [← hn]; unfold firstNZ; rw [if_pos z]
    · rw [wi ⟨by omega, by omega⟩]; omega
    · have z : a.getD i 0 = 0 := by simpa using z
      rw [← hn, z]; rfl
    · rw [wi ⟨by omega, by omega⟩]; omega
  · have e : a.length ≤ i := by have := of_decide_eq_false e; dsimp only at this; omega
    refine congrArg r1 ?_
    rw [← hn, List.drop_eq_nil_of_le e]; rfl
def Fx_sum_Three_c1 := fun (a b : Nat) (post : Int × Unit → Prop) => ∃ (h : W64 a), ∃ (h : W64 b), ∃ (h : True), ∃ (h : W2 a b), ∃ (h : True), post ((orR [(cmpR (mag2R a).fst (mag2R
  b).fst).fst, (ordR a b).fst]).fst, ())
theorem Lx_sum_Three_c1 (a : Nat) (b : Nat) (h : W2 a b) : Fx_sum_Three_c1  a b (fun r => r = cmpMR a b) := by
  refine ⟨h.1, h.2, trivial, h, trivial, ?_⟩
  refine congrArg r1 ?_
  unfold cmpM
  show firstNZ [cmpI (mag2 a) (mag2 b), ordF a b] = _
  simp only [firstNZ]
  split
  · rfl
  · split
    · rfl
    · rename_i z; simpa using (by simpa using z : ordF a b = 0).symm
def Fx_math_IsInf := fun (a : Nat) (b : Int) (post : Bool × Unit → Prop) => ∀ (a_1 : Bool), a_1 = (b == (0 : Int)) → Br a_1 (∃ (h : W64 a), ∀ (a_2 : Bool), a_2 = fcmp Go.BinOp.gtr
  (Go.FloatKind.f64.format.order (absR a).fst (9218868437227405311 : Nat)) → post (a_2, ())) (∀ (a_2 : Bool), a_2 = decide (b < (0 : Int)) → Br a_2 (∀ (a_3 : Bool), a_3 = fcmp
  Go.BinOp.gtr (Go.FloatKind.f64.format.order (Go.Op.negFloat Go.FloatKind.f64 a) (9218868437227405311 : Nat)) → post (a_3, ())) (∀ (a_3 : Bool), a_3 = fcmp Go.BinOp.gtr
  (Go.FloatKind.f64.format.order a (9218868437227405311 : Nat)) → post (a_3, ())))
theorem Lx_math_IsInf (a : Nat) (b : Int) (h : WI a b) : Fx_math_IsInf  a b (fun r => r = infSR a b) := by
  have h : W64 a := h
  rintro _ rfl
  refine Br.intro (fun e => ⟨h, ?_⟩) fun e => ?_
  · have e : b = 0 := by simpa using e
    rintro _ rfl
    refine congrArg r1 ?_
    show fcmp .gtr (Ieee.double.order (rungOf a) 9218868437227405311) = _
    unfold infS; rw [if_pos e, gt_max]
    have := rung_lt a
    have e1 : rungOf (rungOf a) = rungOf a := rung_lo this
    have e2 : sgn (rungOf a) = false := by rw [sgn_dec (by unfold W64; omega)]; simp; omega
    rw [e1, e2]; simp
  · have e : b ≠ 0 := by simpa using e
    rintro _ rfl
    refine Br.intro (fun f => ?_) fun f => ?_
    · have f : b < 0 := of_decide_eq_true f
      rintro _ rfl
      refine congrArg r1 ?_
      show fcmp .gtr (Ieee.double.order (negF a) 9218868437227405311) = _
      unfold infS; rw [if_neg e, if_pos f, gt_max, (rung_negF h).1, sgn_negF h]; simp
    · have f : ¬ b < 0 := of_decide_eq_false f
      rintro _ rfl
      refine congrArg r1 ?_
      show fcmp .gtr (Ieee.double.order a 9218868437227405311) = _
      unfold infS; rw [if_neg e, if_neg f, gt_max]
end Go.Lift

set_option linter.unusedVariables false
set_option linter.unusedSimpArgs false
namespace Go.Lift
open Go.Proofs
def Rbq_math_Float64bits : Con := .det [.flt .f64] [.snap (.int .u64)] (fun _ => True) (fun x => bitsR x.1)
theorem Rbh_math_Float64bits : Rbq_math_Float64bits.holds Tryz.prog RbG 120 := by
  refine ext_bits64 (fn := Tryz.f120) Tryz.func120 (by decide) rfl rfl (by kernel_rfl)
def Rbq_math_Float64frombits : Con := .det [.int .u64] [.snap (.flt .f64)] (fun _ => True) (fun x => fromR x.1)
theorem Rbh_math_Float64frombits : Rbq_math_Float64frombits.holds Tryz.prog RbG 146 := by
  refine ext_from64 (fn := Tryz.f146) Tryz.func146 (by decide) rfl rfl (by kernel_rfl)
def Rbq_math_sqrt : Con := .rel [.flt .f64] [.snap (.flt .f64)] (fun _ => True) (fun x r => sqrtP x.1 r) (fun x h => relF_ne (sqrtQ_q _) (sqrtQ_w _))
theorem Rbh_math_sqrt : Rbq_math_sqrt.holds Tryz.prog RbG 166 := by
  refine ext_sqrt (fn := Tryz.f166) Tryz.func166 (by decide) rfl rfl (by kernel_rfl)
def Rbq_bits_quiet : Con := .det [] [.snap (.flt .f64)] (fun _ => True) (fun x => qnR)
def Rbx_bits_quiet : Cx := ⟨tabOf Rbtab, conOf [(146, Rbq_math_Float64frombits)], RbG⟩
theorem Rbx_bits_quiet_ok : CxOk Tryz.prog Rbx_bits_quiet := ⟨tabB_sound Rbtab_ok, conOf_sound ⟨Rbh_math_Float64frombits, trivial⟩⟩
theorem Rbat_bits_quiet : FnAt Tryz.prog 119 Tryz.f119.ntmps Tryz.f119.results.toList (Tryz.f119.body.getD .skip) := ⟨Tryz.f119, Tryz.func119, rfl, rfl, by simp, by decide⟩
theorem Rbeq_bits_quiet  (post : Nat × Unit → Prop) : fnEval Rbx_bits_quiet nHn Tryz.f119.ntmps Tryz.f119.results.toList (Tryz.f119.body.getD .skip) [] [.snap (.flt .f64)] (()) post = Fx_bits_quiet   post := by kernel_rfl
theorem Rbh_bits_quiet : Rbq_bits_quiet.holds Tryz.prog RbG 119 :=
  detP Rbx_bits_quiet_ok Rbmixed nHn Rbat_bits_quiet (F := fun x post => Fx_bits_quiet   post) (fun x post => Rbeq_bits_quiet  post) fun x _ _ => Lx_bits_quiet
def Rbq_math_Abs : Con := .det [.flt .f64] [.snap (.flt .f64)] (fun x => W64 x.1) (fun x => absR x.1)
def Rbx_math_Abs : Cx := ⟨tabOf Rbtab, conOf [(120, Rbq_math_Float64bits), (146, Rbq_math_Float64frombits)], RbG⟩
theorem Rbx_math_Abs_ok : CxOk Tryz.prog Rbx_math_Abs := ⟨tabB_sound Rbtab_ok, conOf_sound ⟨Rbh_math_Float64bits, Rbh_math_Float64frombits, trivial⟩⟩
theorem Rbat_math_Abs : FnAt Tryz.prog 151 Tryz.f151.ntmps Tryz.f151.results.toList (Tryz.f151.body.getD .skip) := ⟨Tryz.f151, Tryz.func151, rfl, rfl, by simp, by decide⟩
theorem Rbeq_math_Abs (a : Nat) (post : Nat × Unit → Prop) : fnEval Rbx_math_Abs nHn Tryz.f151.ntmps Tryz.f151.results.toList (Tryz.f151.body.getD .skip) [.flt .f64] [.snap (.flt .f64)] (a, ()) post = Fx_math_Abs  a post := by kernel_rfl
theorem Rbh_math_Abs : Rbq_math_Abs.holds Tryz.prog RbG 151 :=
  detP Rbx_math_Abs_ok Rbmixed nHn Rbat_math_Abs (F := fun x post => Fx_math_Abs  x.1 post) (fun x post => Rbeq_math_Abs x.1 post) fun x h _ => Lx_math_Abs  x.1 h
def Rbq_math_IsNaN : Con := .det [.flt .f64] [.snap .bool] (fun _ => True) (fun x => nanR x.1)
def Rbx_math_IsNaN : Cx := ⟨tabOf Rbtab, conOf [], RbG⟩
theorem Rbx_math_IsNaN_ok : CxOk Tryz.prog Rbx_math_IsNaN := ⟨tabB_sound Rbtab_ok, fun f c h => by cases h⟩
theorem Rbat_math_IsNaN : FnAt Tryz.prog 197 Tryz.f197.ntmps Tryz.f197.results.toList (Tryz.f197.body.getD .skip) := ⟨Tryz.f197, Tryz.func197, rfl, rfl, by simp, by decide⟩
theorem Rbeq_math_IsNaN (a : Nat) (post : Bool × Unit → Prop) : fnEval Rbx_math_IsNaN nHn Tryz.f197.ntmps Tryz.f197.results.toList (Tryz.f197.body.getD .skip) [.flt .f64] [.snap .bool] (a, ()) post = Fx_math_IsNaN  a post := by kernel_rfl
theorem Rbh_math_IsNaN : Rbq_math_IsNaN.holds Tryz.prog RbG 197 :=
  detP Rbx_math_IsNaN_ok Rbmixed nHn Rbat_math_IsNaN (F := fun x post => Fx_math_IsNaN  x.1 post) (fun x post => Rbeq_math_IsNaN x.1 post) fun x _ _ => Lx_math_IsNaN  x.1
def Rbq_bits_Canon : Con := .det [.flt .f64] [.snap (.flt .f64)] (fun _ => True) (fun x => canonR x.1)
def Rbx_bits_Canon : Cx := ⟨tabOf Rbtab, conOf [(119, Rbq_bits_quiet)], RbG⟩
theorem Rbx_bits_Canon_ok : CxOk Tryz.prog Rbx_bits_Canon := ⟨tabB_sound Rbtab_ok, conOf_sound ⟨Rbh_bits_quiet, trivial⟩⟩
theorem Rbat_bits_Canon : FnAt Tryz.prog 88 Tryz.f88.ntmps Tryz.f88.results.toList (Tryz.f88.body.getD .skip) := ⟨Tryz.f88, Tryz.func88, rfl, rfl, by simp, by decide⟩
theorem Rbeq_bits_Canon (a : Nat) (post : Nat × Unit → Prop) : fnEval Rbx_bits_Canon nHn Tryz.f88.ntmps Tryz.f88.results.toList (Tryz.f88.body.getD .skip) [.flt .f64] [.snap (.flt .f64)] (a, ()) post = Fx_bits_Canon  a post := by kernel_rfl
theorem Rbh_bits_Canon : Rbq_bits_Canon.holds Tryz.prog RbG 88 :=
  detP Rbx_bits_Canon_ok Rbmixed nHn Rbat_bits_Canon (F := fun x post => Fx_bits_Canon  x.1 post) (fun x post => Rbeq_bits_Canon x.1 post) fun x _ _ => Lx_bits_Canon  x.1
def Rbq_sum_quiet : Con := .det [.flt .f64] [.snap (.flt .f64)] (fun _ => True) (fun x => quietR x.1)
def Rbx_sum_quiet : Cx := ⟨tabOf Rbtab, conOf [(197, Rbq_math_IsNaN), (146, Rbq_math_Float64frombits)], RbG⟩
theorem Rbx_sum_quiet_ok : CxOk Tryz.prog Rbx_sum_quiet := ⟨tabB_sound Rbtab_ok, conOf_sound ⟨Rbh_math_IsNaN, Rbh_math_Float64frombits, trivial⟩⟩
theorem Rbat_sum_quiet : FnAt Tryz.prog 182 Tryz.f182.ntmps Tryz.f182.results.toList (Tryz.f182.body.getD .skip) := ⟨Tryz.f182, Tryz.func182, rfl, rfl, by simp, by decide⟩
theorem Rbeq_sum_quiet (a : Nat) (post : Nat × Unit → Prop) : fnEval Rbx_sum_quiet nHn Tryz.f182.ntmps Tryz.f182.results.toList (Tryz.f182.body.getD .skip) [.flt .f64] [.snap (.flt .f64)] (a, ()) post = Fx_sum_quiet  a post := by kernel_rfl
theorem Rbh_sum_quiet : Rbq_sum_quiet.holds Tryz.prog RbG 182 :=
  detP Rbx_sum_quiet_ok Rbmixed nHn Rbat_sum_quiet (F := fun x post => Fx_sum_quiet  x.1 post) (fun x post => Rbeq_sum_quiet x.1 post) fun x _ _ => Lx_sum_quiet  x.1
def Rbq_sum_magnitude : Con := .det [.flt .f64] [.snap (.int .u64)] (fun x => W64 x.1) (fun x => mag2R x.1)
def Rbx_sum_magnitude : Cx := ⟨tabOf Rbtab, conOf [(120, Rbq_math_Float64bits)], RbG⟩
theorem Rbx_sum_magnitude_ok : CxOk Tryz.prog Rbx_sum_magnitude := ⟨tabB_sound Rbtab_ok, conOf_sound ⟨Rbh_math_Float64bits, trivial⟩⟩
theorem Rbat_sum_magnitude : FnAt Tryz.prog 170 Tryz.f170.ntmps Tryz.f170.results.toList (Tryz.f170.body.getD .skip) := ⟨Tryz.f170, Tryz.func170, rfl, rfl, by simp, by decide⟩
theorem Rbeq_sum_magnitude (a : Nat) (post : Int × Unit → Prop) : fnEval Rbx_sum_magnitude nHn Tryz.f170.ntmps Tryz.f170.results.toList (Tryz.f170.body.getD .skip) [.flt .f64] [.snap (.int .u64)] (a, ()) post = Fx_sum_magnitude  a post := by kernel_rfl
theorem Rbh_sum_magnitude : Rbq_sum_magnitude.holds Tryz.prog RbG 170 :=
  detP Rbx_sum_magnitude_ok Rbmixed nHn Rbat_sum_magnitude (F := fun x post => Fx_sum_magnitude  x.1 post) (fun x post => Rbeq_sum_magnitude x.1 post) fun x h _ => Lx_sum_magnitude  x.1 h
def Rbq_bits_place : Con := .det [.flt .f64] [.snap (.int .u64)] (fun x => W64 x.1) (fun x => placeR x.1)
def Rbx_bits_place : Cx := ⟨tabOf Rbtab, conOf [(120, Rbq_math_Float64bits)], RbG⟩
theorem Rbx_bits_place_ok : CxOk Tryz.prog Rbx_bits_place := ⟨tabB_sound Rbtab_ok, conOf_sound ⟨Rbh_math_Float64bits, trivial⟩⟩
theorem Rbat_bits_place : FnAt Tryz.prog 118 Tryz.f118.ntmps Tryz.f118.results.toList (Tryz.f118.body.getD .skip) := ⟨Tryz.f118, Tryz.func118, rfl, rfl, by simp, by decide⟩
theorem Rbeq_bits_place (a : Nat) (post : Int × Unit → Prop) : fnEval Rbx_bits_place nHn Tryz.f118.ntmps Tryz.f118.results.toList (Tryz.f118.body.getD .skip) [.flt .f64] [.snap (.int .u64)] (a, ()) post = Fx_bits_place  a post := by kernel_rfl
theorem Rbh_bits_place : Rbq_bits_place.holds Tryz.prog RbG 118 :=
  detP Rbx_bits_place_ok Rbmixed nHn Rbat_bits_place (F := fun x post => Fx_bits_place  x.1 post) (fun x post => Rbeq_bits_place x.1 post) fun x h _ => Lx_bits_place  x.1 h
def Rbq_cmp_isNaN_uint64 : Con := .det [.int .u64] [.snap .bool] (fun _ => True) (fun x => noR x.1)
def Rbx_cmp_isNaN_uint64 : Cx := ⟨tabOf Rbtab, conOf [], RbG⟩
theorem Rbx_cmp_isNaN_uint64_ok : CxOk Tryz.prog Rbx_cmp_isNaN_uint64 := ⟨tabB_sound Rbtab_ok, fun f c h => by cases h⟩
theorem Rbat_cmp_isNaN_uint64 : FnAt Tryz.prog 145 Tryz.f145.ntmps Tryz.f145.results.toList (Tryz.f145.body.getD .skip) := ⟨Tryz.f145, Tryz.func145, rfl, rfl, by simp, by decide⟩
theorem Rbeq_cmp_isNaN_uint64 (a : Int) (post : Bool × Unit → Prop) : fnEval Rbx_cmp_isNaN_uint64 nHn Tryz.f145.ntmps Tryz.f145.results.toList (Tryz.f145.body.getD .skip) [.int .u64] [.snap .bool] (a, ()) post = Fx_cmp_isNaN_uint64  a post := by kernel_rfl
theorem Rbh_cmp_isNaN_uint64 : Rbq_cmp_isNaN_uint64.holds Tryz.prog RbG 145 :=
  detP Rbx_cmp_isNaN_uint64_ok Rbmixed nHn Rbat_cmp_isNaN_uint64 (F := fun x post => Fx_cmp_isNaN_uint64  x.1 post) (fun x post => Rbeq_cmp_isNaN_uint64 x.1 post) fun x _ _ => Lx_cmp_isNaN_uint64  x.1
def Rbq_cmp_Compare_uint64 : Con := .det [.int .u64, .int .u64] [.snap (.int .i64)] (fun _ => True) (fun x => cmpR x.1 x.2.1)
def Rbx_cmp_Compare_uint64 : Cx := ⟨tabOf Rbtab, conOf [(145, Rbq_cmp_isNaN_uint64)], RbG⟩
theorem Rbx_cmp_Compare_uint64_ok : CxOk Tryz.prog Rbx_cmp_Compare_uint64 := ⟨tabB_sound Rbtab_ok, conOf_sound ⟨Rbh_cmp_isNaN_uint64, trivial⟩⟩
theorem Rbat_cmp_Compare_uint64 : FnAt Tryz.prog 117 Tryz.f117.ntmps Tryz.f117.results.toList (Tryz.f117.body.getD .skip) := ⟨Tryz.f117, Tryz.func117, rfl, rfl, by simp, by decide⟩
theorem Rbeq_cmp_Compare_uint64 (a : Int) (b : Int) (post : Int × Unit → Prop) : fnEval Rbx_cmp_Compare_uint64 nHn Tryz.f117.ntmps Tryz.f117.results.toList (Tryz.f117.body.getD .skip) [.int .u64, .int .u64] [.snap (.int .i64)] (a, b, ()) post = Fx_cmp_Compare_uint64  a b post := by kernel_rfl
theorem Rbh_cmp_Compare_uint64 : Rbq_cmp_Compare_uint64.holds Tryz.prog RbG 117 :=
  detP Rbx_cmp_Compare_uint64_ok Rbmixed nHn Rbat_cmp_Compare_uint64 (F := fun x post => Fx_cmp_Compare_uint64  x.1 x.2.1 post) (fun x post => Rbeq_cmp_Compare_uint64 x.1 x.2.1 post) fun x _ _ => Lx_cmp_Compare_uint64  x.1 x.2.1
def Rbq_bits_Order : Con := .det [.flt .f64, .flt .f64] [.snap (.int .i64)] (fun x => W2 x.1 x.2.1) (fun x => ordR x.1 x.2.1)
def Rbx_bits_Order : Cx := ⟨tabOf Rbtab, conOf [(118, Rbq_bits_place), (117, Rbq_cmp_Compare_uint64)], RbG⟩
theorem Rbx_bits_Order_ok : CxOk Tryz.prog Rbx_bits_Order := ⟨tabB_sound Rbtab_ok, conOf_sound ⟨Rbh_bits_place, Rbh_cmp_Compare_uint64, trivial⟩⟩
theorem Rbat_bits_Order : FnAt Tryz.prog 87 Tryz.f87.ntmps Tryz.f87.results.toList (Tryz.f87.body.getD .skip) := ⟨Tryz.f87, Tryz.func87, rfl, rfl, by simp, by decide⟩
theorem Rbeq_bits_Order (a : Nat) (b : Nat) (post : Int × Unit → Prop) : fnEval Rbx_bits_Order nHn Tryz.f87.ntmps Tryz.f87.results.toList (Tryz.f87.body.getD .skip) [.flt .f64, .flt .f64] [.snap (.int .i64)] (a, b, ()) post = Fx_bits_Order  a b post := by kernel_rfl
theorem Rbh_bits_Order : Rbq_bits_Order.holds Tryz.prog RbG 87 :=
  detP Rbx_bits_Order_ok Rbmixed nHn Rbat_bits_Order (F := fun x post => Fx_bits_Order  x.1 x.2.1 post) (fun x post => Rbeq_bits_Order x.1 x.2.1 post) fun x h _ => Lx_bits_Order  x.1 x.2.1 h
def Rbq_cmp_Or_int : Con := .det [.slice (.int .i64)] [.snap (.int .i64)] (fun _ => True) (fun x => orR x.1)
def Rbhn_cmp_Or_int : Hn := { loops := fun k => match k with | 3 => some { ls := [(.slot 8, .data (.int .i64))], os := [] } | _ => none, joins := fun _ => none, named := true }
def Rbx_cmp_Or_int : Cx := ⟨tabOf Rbtab, conOf [], RbG⟩
theorem Rbx_cmp_Or_int_ok : CxOk Tryz.prog Rbx_cmp_Or_int := ⟨tabB_sound Rbtab_ok, fun f c h => by cases h⟩
theorem Rbat_cmp_Or_int : FnAt Tryz.prog 169 Tryz.f169.ntmps Tryz.f169.results.toList (Tryz.f169.body.getD .skip) := ⟨Tryz.f169, Tryz.func169, rfl, rfl, by simp, by decide⟩
theorem Rbeq_cmp_Or_int (a : List Int) (post : Int × Unit → Prop) : fnEval Rbx_cmp_Or_int Rbhn_cmp_Or_int Tryz.f169.ntmps Tryz.f169.results.toList (Tryz.f169.body.getD .skip) [.slice (.int .i64)] [.snap (.int .i64)] (a, ()) post = Fx_cmp_Or_int  a post := by kernel_rfl
theorem Rbh_cmp_Or_int : Rbq_cmp_Or_int.holds Tryz.prog RbG 169 :=
  detP Rbx_cmp_Or_int_ok Rbmixed Rbhn_cmp_Or_int Rbat_cmp_Or_int (F := fun x post => Fx_cmp_Or_int  x.1 post) (fun x post => Rbeq_cmp_Or_int x.1 post) fun x _ w => Lx_cmp_Or_int  x.1 w
def Rbq_sum_Three_c1 : Con := .det [.flt .f64, .flt .f64] [.snap (.int .i64)] (fun x => W2 x.1 x.2.1) (fun x => cmpMR x.1 x.2.1)
def Rbx_sum_Three_c1 : Cx := ⟨tabOf Rbtab, conOf [(170, Rbq_sum_magnitude), (117, Rbq_cmp_Compare_uint64), (87, Rbq_bits_Order), (169, Rbq_cmp_Or_int)], RbG⟩
theorem Rbx_sum_Three_c1_ok : CxOk Tryz.prog Rbx_sum_Three_c1 := ⟨tabB_sound Rbtab_ok, conOf_sound ⟨Rbh_sum_magnitude, Rbh_cmp_Compare_uint64, Rbh_bits_Order, Rbh_cmp_Or_int, trivial⟩⟩
theorem Rbat_sum_Three_c1 : FnAt Tryz.prog 168 Tryz.f168.ntmps Tryz.f168.results.toList (Tryz.f168.body.getD .skip) := ⟨Tryz.f168, Tryz.func168, rfl, rfl, by simp, by decide⟩
theorem Rbeq_sum_Three_c1 (a : Nat) (b : Nat) (post : Int × Unit → Prop) : fnEval Rbx_sum_Three_c1 nHn Tryz.f168.ntmps Tryz.f168.results.toList (Tryz.f168.body.getD .skip) [.flt .f64, .flt .f64] [.snap (.int .i64)] (a, b, ()) post = Fx_sum_Three_c1  a b post := by kernel_rfl
theorem Rbh_sum_Three_c1 : Rbq_sum_Three_c1.holds Tryz.prog RbG 168 :=
  detP Rbx_sum_Three_c1_ok Rbmixed nHn Rbat_sum_Three_c1 (F := fun x post => Fx_sum_Three_c1  x.1 x.2.1 post) (fun x post => Rbeq_sum_Three_c1 x.1 x.2.1 post) fun x h _ => Lx_sum_Three_c1  x.1 x.2.1 h
def Rbq_math_IsInf : Con := .det [.flt .f64, .int .i64] [.snap .bool] (fun x => WI x.1 x.2.1) (fun x => infSR x.1 x.2.1)
def Rbx_math_IsInf : Cx := ⟨tabOf Rbtab, conOf [(151, Rbq_math_Abs)], RbG⟩
theorem Rbx_math_IsInf_ok : CxOk Tryz.prog Rbx_math_IsInf := ⟨tabB_sound Rbtab_ok, conOf_sound ⟨Rbh_math_Abs, trivial⟩⟩
theorem Rbat_math_IsInf : FnAt Tryz.prog 173 Tryz.f173.ntmps Tryz.f173.results.toList (Tryz.f173.body.getD .skip) := ⟨Tryz.f173, Tryz.func173, rfl, rfl, by simp, by decide⟩
theorem Rbeq_math_IsInf (a : Nat) (b : Int) (post : Bool × Unit → Prop) : fnEval Rbx_math_IsInf nHn Tryz.f173.ntmps Tryz.f173.results.toList (Tryz.f173.body.getD .skip) [.flt .f64, .int .i64] [.snap .bool] (a, b, ()) post = Fx_math_IsInf  a b post := by kernel_rfl
theorem Rbh_math_IsInf : Rbq_math_IsInf.holds Tryz.prog RbG 173 :=
  detP Rbx_math_IsInf_ok Rbmixed nHn Rbat_math_IsInf (F := fun x post => Fx_math_IsInf  x.1 x.2.1 post) (fun x post => Rbeq_math_IsInf x.1 x.2.1 post) fun x h _ => Lx_math_IsInf  x.1 x.2.1 h
end Go.Lift

set_option linter.unusedVariables false
set_option linter.unusedSimpArgs false
namespace Go.Lift
def Fx_vec_canon := fun (a b c : Nat) (post : (Nat × Nat × Nat) × Unit → Prop) => ∃ (h : True), ∃ (h : True), ∃ (h : True), post (((canonR a).fst, (canonR b).fst, (canonR c).fst),
  ())
theorem Lx_vec_canon (a : Nat) (b : Nat) (c : Nat) : Fx_vec_canon  a b c (fun r => r = canonVR a b c) := by
  exact ⟨trivial, trivial, trivial, rfl⟩
def Fx_vec_Minus := fun (a b : Nat × Nat × Nat) (post : (Nat × Nat × Nat) × Unit → Prop) => ∀ (a_1 : Nat), FRes Go.FloatKind.f64 (Go.FloatKind.f64.format.sub a.fst b.fst) a_1 → ∀
  (a_2 : Nat), FRes Go.FloatKind.f64 (Go.FloatKind.f64.format.sub a.snd.fst b.snd.fst) a_2 → ∀ (a_3 : Nat), FRes Go.FloatKind.f64 (Go.FloatKind.f64.format.sub a.snd.snd b.snd.snd)
  a_3 → ∃ (h : True), post (((canonVR a_1 a_2 a_3).fst.fst, (canonVR a_1 a_2 a_3).fst.snd.fst, (canonVR a_1 a_2 a_3).fst.snd.snd), ())
theorem Lx_vec_Minus (a : Nat × Nat × Nat) (b : Nat × Nat × Nat) (h : WV2 a b) : Fx_vec_Minus  a b (fun r => r = minusR a b) := by
  intro x hx y hy z hz
  exact ⟨trivial, congrArg r1 (canonV_congr (fsub hx).1 (fsub hy).1 (fsub hz).1)⟩
def Fx_vec_Cross := fun (a b : Nat × Nat × Nat) (post : (Nat × Nat × Nat) × Unit → Prop) => ∀ (a_1 : Nat), FRes Go.FloatKind.f64 (Go.FloatKind.f64.format.mul a.snd.fst b.snd.snd)
  a_1 → ∀ (a_2 : Nat), FRes Go.FloatKind.f64 (Go.FloatKind.f64.format.mul a.snd.snd b.snd.fst) a_2 → ∀ (a_3 : Nat), FRes Go.FloatKind.f64 (Go.FloatKind.f64.format.sub a_1 a_2) a_3 →
  ∀ (a_4 : Nat), FRes Go.FloatKind.f64 (Go.FloatKind.f64.format.mul a.snd.snd b.fst) a_4 → ∀ (a_5 : Nat), FRes Go.FloatKind.f64 (Go.FloatKind.f64.format.mul a.fst b.snd.snd) a_5 → ∀
  (a_6 : Nat), FRes Go.FloatKind.f64 (Go.FloatKind.f64.format.sub a_4 a_5) a_6 → ∀ (a_7 : Nat), FRes Go.FloatKind.f64 (Go.FloatKind.f64.format.mul a.fst b.snd.fst) a_7 → ∀ (a_8 :
  Nat), FRes Go.FloatKind.f64 (Go.FloatKind.f64.format.mul a.snd.fst b.fst) a_8 → ∀ (a : Nat), FRes Go.FloatKind.f64 (Go.FloatKind.f64.format.sub a_7 a_8) a → ∃ (h : True), post
  (((canonVR a_3 a_6 a).fst.fst, (canonVR a_3 a_6 a).fst.snd.fst, (canonVR a_3 a_6 a).fst.snd.snd), ())
theorem Lx_vec_Cross (a : Nat × Nat × Nat) (b : Nat × Nat × Nat) : Fx_vec_Cross  a b (fun r => r = crossR a b) := by
  intro x1 h1 x2 h2 x3 h3 x4 h4 x5 h5 x6 h6 x7 h7 x8 h8 x9 h9
  exact ⟨trivial, congrArg r1 (canonV_congr (less_eq (fmul h1).1 (fmul h2).1 (fsub h3).1) (less_eq (fmul h4).1 (fmul h5).1 (fsub h6).1) (less_eq (fmul h7).1 (fmul h8).1 (fsub h9).1))⟩
def Fx_math_Sqrt := fun (a : Nat) (post : Nat × Unit → Prop) => ∃ (h : True), ∀ (a_1 : Nat × Unit), sqrtP a a_1 → post (a_1.fst, ())
theorem Lx_math_Sqrt (a : Nat) : Fx_math_Sqrt  a (fun r => sqrtP a r) := by
  exact ⟨trivial, fun x hx => hx⟩
def Fx_vec_Length := fun (a : Nat × Nat × Nat) (post : Nat × Unit → Prop) => ∀ (a_1 : Nat), FRes Go.FloatKind.f64 (Go.FloatKind.f64.format.mul a.fst a.fst) a_1 → ∀ (a_2 : Nat), FRes
  Go.FloatKind.f64 (Go.FloatKind.f64.format.mul a.snd.fst a.snd.fst) a_2 → ∀ (a_3 : Nat), FRes Go.FloatKind.f64 (Go.FloatKind.f64.format.mul a.snd.snd a.snd.snd) a_3 → ∃ (h : W3 a_1
  a_2 a_3), ∃ (h : True), ∀ (a : Nat × Unit), sqrtP (threeR a_1 a_2 a_3).fst a → ∃ (h : True), post ((canonR a.fst).fst, ())
theorem Lx_vec_Length (a : Nat × Nat × Nat) (h : WV a) : Fx_vec_Length  a (fun r => r = lengthR a) := by
  intro x hx y hy z hz
  exact ⟨⟨(fmul hx).2, (fmul hy).2, (fmul hz).2⟩, trivial, fun w hw => ⟨trivial, congrArg r1 (length_eq (fmul hx).1 (fmul hy).1 (fmul hz).1 hw.1)⟩⟩
def Fx_vec_Gap := fun (a b : Nat × Nat × Nat) (post : Nat × Unit → Prop) => ∃ (h : WV2 (a.fst, a.snd.fst, a.snd.snd) (b.fst, b.snd.fst, b.snd.snd)), ∃ (h : WV (minusR (a.fst,
  a.snd.fst, a.snd.snd) (b.fst, b.snd.fst, b.snd.snd)).fst), post ((lengthR (minusR (a.fst, a.snd.fst, a.snd.snd) (b.fst, b.snd.fst, b.snd.snd)).fst).fst, ())
theorem Lx_vec_Gap (a : Nat × Nat × Nat) (b : Nat × Nat × Nat) (h : WV2 a b) : Fx_vec_Gap  a b (fun r => r = gapR a b) := by
  exact ⟨h, minusV_w _ _, rfl⟩
def Fx_vec_Unit := fun (a : Nat × Nat × Nat) (post : (Nat × Nat × Nat) × Unit → Prop) => ∃ (h : WV (a.fst, a.snd.fst, a.snd.snd)), ∀ (a_1 : Bool), a_1 = fcmp Go.BinOp.gtr
  (Go.FloatKind.f64.format.order (lengthR (a.fst, a.snd.fst, a.snd.snd)).fst (0 : Nat)) → Br (!a_1) (post (((0 : Nat), (0 : Nat), (0 : Nat)), ())) (∃ (h : WI (lengthR (a.fst,
  a.snd.fst, a.snd.snd)).fst (1 : Int)), ∀ (a_2 : Bool), a_2 = (infSR (lengthR (a.fst, a.snd.fst, a.snd.snd)).fst (1 : Int)).fst → Br a_2 (post (((0 : Nat), (0 : Nat), (0 : Nat)),
  ())) (∀ (a_3 : Nat), FRes Go.FloatKind.f64 (Go.FloatKind.f64.format.div a.fst (lengthR (a.fst, a.snd.fst, a.snd.snd)).fst) a_3 → ∀ (a_4 : Nat), FRes Go.FloatKind.f64
  (Go.FloatKind.f64.format.div a.snd.fst (lengthR (a.fst, a.snd.fst, a.snd.snd)).fst) a_4 → ∀ (a_5 : Nat), FRes Go.FloatKind.f64 (Go.FloatKind.f64.format.div a.snd.snd (lengthR
  (a.fst, a.snd.fst, a.snd.snd)).fst) a_5 → ∃ (h : True), post (((canonVR a_3 a_4 a_5).fst.fst, (canonVR a_3 a_4 a_5).fst.snd.fst, (canonVR a_3 a_4 a_5).fst.snd.snd), ())))
theorem Lx_vec_Unit (a : Nat × Nat × Nat) (h : WV a) : Fx_vec_Unit  a (fun r => r = unitR a) := by
  refine ⟨h, ?_⟩
  have hs := lengthQ_sgn a
  have hg := gt_zero hs
  rintro _ rfl
  refine Br.intro (fun e => ?_) fun e => ⟨lengthQ_w a, ?_⟩
  · have e : (!fcmp .gtr (Ieee.double.order (lengthQ a) 0)) = true := e
    rw [hg] at e
    refine (congrArg r1 (unit_zero ?_)).symm
    rw [class12]
    rintro ⟨h1, h2⟩
    have : isN (lengthQ a) = false := by unfold isN; simp; omega
    rw [this] at e
    simp [h1] at e
  · have e : (!fcmp .gtr (Ieee.double.order (lengthQ a) 0)) = false := e
    rw [hg] at e
    have e : isN (lengthQ a) = false ∧ rungOf (lengthQ a) ≠ 0 := by simpa using e
    have hi : infS (lengthQ a) 1 = decide (rungOf (lengthQ a) = infR) := by unfold infS; rw [if_neg (by decide), if_neg (by decide), hs]; simp
    rintro _ rfl
    refine Br.intro (fun f => ?_) fun f => ?_
    · have f : infS (lengthQ a) 1 = true := f
      rw [hi] at f
      have f := of_decide_eq_true f
      exact (congrArg r1 (unit_zero (by rw [class12]; rintro ⟨h1, h2⟩; omega))).symm
    · have f : infS (lengthQ a) 1 = false := f
      rw [hi] at f
      have f := of_decide_eq_false f
      have g : rungOf (lengthQ a) ≤ infR := by have := e.1; unfold isN at this; simpa using this
      intro x hx y hy z hz
      exact ⟨trivial, congrArg r1 (unit_some ((class12 _).2 ⟨e.2, by omega⟩) (fdiv hx).1 (fdiv hy).1 (fdiv hz).1)⟩
end Go.Lift

set_option linter.unusedVariables false
set_option linter.unusedSimpArgs false
namespace Go.Lift
def Fx_sum_row := fun (a : List Nat) (post : Nat × Unit → Prop) => ∀ (a_1 : Bool), a_1 = ((↑a.length : Int) == (0 : Int)) → Br a_1 (post ((0 : Nat), ())) (∃ (h : (0 : Int) ≤ (0 :
  Int) ∧ (0 : Int) < (↑a.length : Int)), ∃ (h : (0 : Int) ≤ (1 : Int) ∧ (1 : Int) ≤ (↑a.length : Int) ∧ (↑a.length : Int) ≤ (↑a.length : Int)), HIs [] [] ∧ ∃ (I : Nat × Int × Unit →
  Unit → Prop), ∃ (μ : Nat × Int × Unit → Unit → Nat), I (a.getD (Int.toNat (0 : Int)) (0 : Nat), (0 : Int), ()) () ∧ ∀ (x : Nat × Int × Unit) (y : Unit), I x y → ∀ (a_2 : Bool),
  a_2 = decide (x.snd.fst < (↑(List.take ((↑a.length : Int) - (1 : Int)).toNat (List.drop (Int.toNat (1 : Int)) a)).length : Int)) → Br a_2 (∃ (h : (0 : Int) ≤ x.snd.fst ∧ x.snd.fst
  < (↑(List.take ((↑a.length : Int) - (1 : Int)).toNat (List.drop (Int.toNat (1 : Int)) a)).length : Int)), ∀ (a_3 : Nat), FRes Go.FloatKind.f64 (Go.FloatKind.f64.format.add x.fst
  ((List.take ((↑a.length : Int) - (1 : Int)).toNat (List.drop (Int.toNat (1 : Int)) a)).getD x.snd.fst.toNat (0 : Nat))) a_3 → HIs [] [] ∧ I (a_3, IntKind.i64.wrap (x.snd.fst + (1
  : Int)), ()) () ∧ μ (a_3, IntKind.i64.wrap (x.snd.fst + (1 : Int)), ()) () < μ x y) (∃ (h : True), post ((quietR x.fst).fst, ())))
theorem Lx_sum_row (a : List Nat) (h : WL a) (w : KS.wf [.slice (.flt .f64)] (a, ())) : Fx_sum_row  a (fun r => r = rowR a) := by
  have hl : a.length ≤ maxN := w.1.1
  unfold maxN at hl
  rintro _ rfl
  refine Br.intro (fun e => ?_) fun e => ?_
  · have e : a.length = 0 := by have := eq_of_beq e; omega
    have : a = [] := List.eq_nil_of_length_eq_zero e
    subst this; rfl
  · have e : 0 < a.length := by
      rcases Nat.eq_zero_or_pos a.length with z | z
      · rw [z] at e; cases e
      · exact z
    refine ⟨⟨by omega, by omega⟩, ⟨by omega, by omega, by omega⟩, rfl, fun x _ => ∃ i : Nat, x.2.1 = i ∧ i + 1 ≤ a.length ∧ W64 x.1 ∧ quietF x.1 = rowQ (a.take (i + 1)), fun x _ => a.length - x.2.1.toNat, ⟨0, rfl, by omega, WL_getD h 0, (rowQ_one e).symm⟩, ?_⟩
    have ht : List.take ((a.length : Int) - 1).toNat (List.drop (Int.toNat 1) a) = a.drop 1 := by
      show List.take ((a.length : Int) - 1).toNat (List.drop 1 a) = a.drop 1
      apply List.take_of_length_le; rw [List.length_drop]; omega
    rw [ht]
    have hd : ∀ i, (a.drop 1).getD i 0 = a.getD (i + 1) 0 := by
      intro i; rw [List.getD_eq_getElem?_getD, List.getD_eq_getElem?_getD, List.getElem?_drop, Nat.add_comm]
    rintro ⟨acc, _, ⟨⟩⟩ _ ⟨i, hi, hil, hw, hq⟩
    dsimp only at hi hw hq
    subst hi
    dsimp only
    rintro _ rfl
    refine Br.intro (fun f => ?_) fun f => ?_
    · have f : i + 1 < a.length := by have := of_decide_eq_true f; rw [List.length_drop] at this; omega
      refine ⟨⟨by omega, by rw [List.length_drop]; omega⟩, fun r hr => ?_⟩
      rw [Int.toNat_natCast, hd] at hr
      obtain ⟨q1, q2⟩ := fadd hr
      refine ⟨rfl, ⟨i + 1, ?_, by omega, q2, ?_⟩, ?_⟩
      · rw [wi ⟨by omega, by omega⟩]; omega
      · show quietF r = _
        rw [q1, rowQ_at f (by omega), addQ_congr (x' := rowQ (a.take (i + 1))) (by rw [hq, rowQ_q]) rfl]
      · rw [wi ⟨by omega, by omega⟩]; omega
    · have f : a.length ≤ i + 1 := by have := of_decide_eq_false f; rw [List.length_drop] at this; omega
      refine ⟨trivial, congrArg r1 ?_⟩
      show quietF acc = _
      rw [hq, List.take_of_length_le f]
def Fx_sum_Three := fun (a b c : Nat) (post : Nat × Unit → Prop) => ∃ (h : (List.replicate (3 : Nat) (0 : Nat)).length = (3 : Nat) ∧ (3 : Nat) = (3 : Nat)), ∃ (h : (0 : Int) ≤ (0 :
  Int) ∧ (0 : Int) ≤ (3 : Int) ∧ (3 : Int) ≤ (3 : Int) ∧ (3 : Nat) = (3 : Nat)), ∃ (h : IsThree (3 : Int)), ∃ (h : (0 : Int) ≤ (1 : Int) ∧ (1 : Int) < (3 : Int)), ∃ (h : (0 : Int) ≤
  (0 : Int) ∧ (0 : Int) < (3 : Int)), ∃ (h : W2 b a), Br (decide ((cmpMR b a).fst < (0 : Int))) (∃ (h : (0 : Int) ≤ (0 : Int) ∧ (0 : Int) < (3 : Int)), ∃ (h : (0 : Int) ≤ (1 : Int)
  ∧ (1 : Int) < (3 : Int)), ∃ (h : (0 : Int) ≤ (1 : Int) ∧ (1 : Int) < (3 : Int)), ∃ (h : (0 : Int) ≤ (0 : Int) ∧ (0 : Int) < (3 : Int)), ∃ (h : (0 : Int) ≤ (2 : Int) ∧ (2 : Int) <
  (3 : Int)), ∃ (h : (0 : Int) ≤ (1 : Int) ∧ (1 : Int) < (3 : Int)), ∃ (h : W2 c a), Br (decide ((cmpMR c a).fst < (0 : Int))) (∃ (h : (0 : Int) ≤ (1 : Int) ∧ (1 : Int) < (3 :
  Int)), ∃ (h : (0 : Int) ≤ (2 : Int) ∧ (2 : Int) < (3 : Int)), ∃ (h : (0 : Int) ≤ (2 : Int) ∧ (2 : Int) < (3 : Int)), ∃ (h : (0 : Int) ≤ (1 : Int) ∧ (1 : Int) < (3 : Int)), ∃ (h :
  (0 : Int) ≤ (1 : Int) ∧ (1 : Int) < (3 : Int)), ∃ (h : (0 : Int) ≤ (0 : Int) ∧ (0 : Int) < (3 : Int)), ∃ (h : W2 c b), Br (decide ((cmpMR c b).fst < (0 : Int))) (∃ (h : (0 : Int)
  ≤ (0 : Int) ∧ (0 : Int) < (3 : Int)), ∃ (h : (0 : Int) ≤ (1 : Int) ∧ (1 : Int) < (3 : Int)), ∃ (h : (0 : Int) ≤ (1 : Int) ∧ (1 : Int) < (3 : Int)), ∃ (h : (0 : Int) ≤ (0 : Int) ∧
  (0 : Int) < (3 : Int)), ∃ (h : (0 : Int) ≤ (0 : Int) ∧ (0 : Int) ≤ (3 : Int) ∧ (3 : Int) ≤ (3 : Int) ∧ (3 : Nat) = [c, b, a].length), ∃ (h : WL [c, b, a]), post ((rowR [c, b,
  a]).fst, ())) (∃ (h : (0 : Int) ≤ (0 : Int) ∧ (0 : Int) ≤ (3 : Int) ∧ (3 : Int) ≤ (3 : Int) ∧ (3 : Nat) = [b, c, a].length), ∃ (h : WL [b, c, a]), post ((rowR [b, c, a]).fst,
  ()))) (∃ (h : (0 : Int) ≤ (0 : Int) ∧ (0 : Int) ≤ (3 : Int) ∧ (3 : Int) ≤ (3 : Int) ∧ (3 : Nat) = [b, a, c].length), ∃ (h : WL [b, a, c]), post ((rowR [b, a, c]).fst, ()))) (∃ (h
  : (0 : Int) ≤ (2 : Int) ∧ (2 : Int) < (3 : Int)), ∃ (h : (0 : Int) ≤ (1 : Int) ∧ (1 : Int) < (3 : Int)), ∃ (h : W2 c b), Br (decide ((cmpMR c b).fst < (0 : Int))) (∃ (h : (0 :
  Int) ≤ (1 : Int) ∧ (1 : Int) < (3 : Int)), ∃ (h : (0 : Int) ≤ (2 : Int) ∧ (2 : Int) < (3 : Int)), ∃ (h : (0 : Int) ≤ (2 : Int) ∧ (2 : Int) < (3 : Int)), ∃ (h : (0 : Int) ≤ (1 :
  Int) ∧ (1 : Int) < (3 : Int)), ∃ (h : (0 : Int) ≤ (1 : Int) ∧ (1 : Int) < (3 : Int)), ∃ (h : (0 : Int) ≤ (0 : Int) ∧ (0 : Int) < (3 : Int)), ∃ (h : W2 c a), Br (decide ((cmpMR c
  a).fst < (0 : Int))) (∃ (h : (0 : Int) ≤ (0 : Int) ∧ (0 : Int) < (3 : Int)), ∃ (h : (0 : Int) ≤ (1 : Int) ∧ (1 : Int) < (3 : Int)), ∃ (h : (0 : Int) ≤ (1 : Int) ∧ (1 : Int) < (3 :
  Int)), ∃ (h : (0 : Int) ≤ (0 : Int) ∧ (0 : Int) < (3 : Int)), ∃ (h : (0 : Int) ≤ (0 : Int) ∧ (0 : Int) ≤ (3 : Int) ∧ (3 : Int) ≤ (3 : Int) ∧ (3 : Nat) = [c, a, b].length), ∃ (h :
  WL [c, a, b]), post ((rowR [c, a, b]).fst, ())) (∃ (h : (0 : Int) ≤ (0 : Int) ∧ (0 : Int) ≤ (3 : Int) ∧ (3 : Int) ≤ (3 : Int) ∧ (3 : Nat) = [a, c, b].length), ∃ (h : WL [a, c,
  b]), post ((rowR [a, c, b]).fst, ()))) (∃ (h : (0 : Int) ≤ (0 : Int) ∧ (0 : Int) ≤ (3 : Int) ∧ (3 : Int) ≤ (3 : Int) ∧ (3 : Nat) = (3 : Nat)), ∃ (h : WL [a, b, c]), post ((rowR
  [a, b, c]).fst, ())))
theorem Lx_sum_Three (a : Nat) (b : Nat) (c : Nat) (h : W3 a b c) : Fx_sum_Three  a b c (fun r => r = threeR a b c) := by
  obtain ⟨ha, hb, hc⟩ := h
  have leaf : ∀ l, sort3 a b c = l → ((rowR l).fst, ()) = threeR a b c := by rintro _ rfl; rfl
  refine ⟨⟨rfl, rfl⟩, ⟨by decide, by decide, by decide, rfl⟩, rfl, by decide, by decide, ⟨hb, ha⟩, Br.intro (fun e => ⟨by decide, by decide, by decide, by decide, by decide, by decide, ⟨hc, ha⟩, Br.intro (fun f => ⟨by decide, by decide, by decide, by decide, by decide, by decide, ⟨hc, hb⟩, Br.intro (fun g => ⟨by decide, by decide, by decide, by decide, ⟨by decide, by decide, by decide, rfl⟩, WL3 hc hb ha, leaf _ ?_⟩) fun g => ⟨⟨by decide, by decide, by decide, rfl⟩, WL3 hb hc ha, leaf _ ?_⟩⟩) fun f => ⟨⟨by decide, by decide, by decide, rfl⟩, WL3 hb ha hc, leaf _ ?_⟩⟩) fun e => ⟨by decide, by decide, ⟨hc, hb⟩, Br.intro (fun f => ⟨by decide, by decide, by decide, by decide, by decide, by decide, ⟨hc, ha⟩, Br.intro (fun g => ⟨by decide, by decide, by decide, by decide, ⟨by decide, by decide, by decide, rfl⟩, WL3 hc ha hb, leaf _ ?_⟩) fun g => ⟨⟨by decide, by decide, by decide, rfl⟩, WL3 ha hc hb, leaf _ ?_⟩⟩) fun f => ⟨⟨by decide, by decide, by decide, rfl⟩, WL3 ha hb hc, leaf _ ?_⟩⟩⟩
  · have e : ltM b a = true := e
    have f : ltM c a = true := f
    have g : ltM c b = true := g
    unfold sort3; rw [e, f, g]; rfl
  · have e : ltM b a = true := e
    have f : ltM c a = true := f
    have g : ltM c b = false := g
    unfold sort3; rw [e, f, g]; rfl
  · have e : ltM b a = true := e
    have f : ltM c a = false := f
    unfold sort3; rw [e, f]; rfl
  · have e : ltM b a = false := e
    have f : ltM c b = true := f
    have g : ltM c a = true := g
    unfold sort3; rw [e, f, g]; rfl
  · have e : ltM b a = false := e
    have f : ltM c b = true := f
    have g : ltM c a = false := g
    unfold sort3; rw [e, f, g]; rfl
  · have e : ltM b a = false := e
    have f : ltM c b = false := f
    unfold sort3; rw [e, f]; rfl
end Go.Lift

set_option linter.unusedVariables false
set_option linter.unusedSimpArgs false
namespace Go.Lift
open Go.Proofs
def Rbq_sum_row : Con := .det [.slice (.flt .f64)] [.snap (.flt .f64)] (fun x => WL x.1) (fun x => rowR x.1)
def Rbhn_sum_row : Hn := { loops := fun k => match k with | 5 => some { ls := [(.slot 3, .data (.flt .f64)), (.slot 15, .data (.int .i64))], os := [] } | _ => none, joins := fun _ => none, named := true }
def Rbx_sum_row : Cx := ⟨tabOf Rbtab, conOf [(182, Rbq_sum_quiet)], RbG⟩
theorem Rbx_sum_row_ok : CxOk Tryz.prog Rbx_sum_row := ⟨tabB_sound Rbtab_ok, conOf_sound ⟨Rbh_sum_quiet, trivial⟩⟩
theorem Rbat_sum_row : FnAt Tryz.prog 171 Tryz.f171.ntmps Tryz.f171.results.toList (Tryz.f171.body.getD .skip) := ⟨Tryz.f171, Tryz.func171, rfl, rfl, by simp, by decide⟩
theorem Rbeq_sum_row (a : List Nat) (post : Nat × Unit → Prop) : fnEval Rbx_sum_row Rbhn_sum_row Tryz.f171.ntmps Tryz.f171.results.toList (Tryz.f171.body.getD .skip) [.slice (.flt .f64)] [.snap (.flt .f64)] (a, ()) post = Fx_sum_row  a post := by kernel_rfl
theorem Rbh_sum_row : Rbq_sum_row.holds Tryz.prog RbG 171 :=
  detP Rbx_sum_row_ok Rbmixed Rbhn_sum_row Rbat_sum_row (F := fun x post => Fx_sum_row  x.1 post) (fun x post => Rbeq_sum_row x.1 post) fun x h w => Lx_sum_row  x.1 h w
def Rbq_mbits_Len64 : Con := .det [.int .u64] [.snap (.int .i64)] (fun x => IsThree x.1) (fun x => twoR x.1)
def Rbx_mbits_Len64 : Cx := ⟨tabOf Rbtab, fun _ => none, RbG⟩
theorem Rbx_mbits_Len64_ok : CxOk Tryz.prog Rbx_mbits_Len64 := ⟨tabB_sound Rbtab_ok, fun f c h => by cases h⟩
theorem Rbat_mbits_Len64 : FnAt Tryz.prog 147 Tryz.f147.ntmps Tryz.f147.results.toList (Tryz.f147.body.getD .skip) := ⟨Tryz.f147, Tryz.func147, rfl, rfl, by simp, by decide⟩
theorem Rbeq_mbits_Len64 (post : Int × Unit → Prop) : fnEval Rbx_mbits_Len64 noHn Tryz.f147.ntmps Tryz.f147.results.toList (Tryz.f147.body.getD .skip) [.int .u64] [.snap (.int .i64)] ((3 : Int), ()) post = (∃ (h : (0 : Int) ≤ (3 : Int) ∧ (3 : Int) < (256 : Int)), post ((2 : Int), ())) := by kernel_rfl
theorem Rbh_mbits_Len64 : Rbq_mbits_Len64.holds Tryz.prog RbG 147 := by
  refine det_holds Rbx_mbits_Len64_ok Rbmixed noHn Rbat_mbits_Len64 ?_
  rintro ⟨a, ⟨⟩⟩ h
  have h : a = (3 : Int) := h
  subst h
  exact (Rbeq_mbits_Len64 _).mpr ⟨by decide, rfl⟩
def Rbq_mbits_Len : Con := .det [.int .u64] [.snap (.int .i64)] (fun x => IsThree x.1) (fun x => twoR x.1)
def Rbx_mbits_Len : Cx := ⟨tabOf Rbtab, conOf [(147, Rbq_mbits_Len64)], RbG⟩
theorem Rbx_mbits_Len_ok : CxOk Tryz.prog Rbx_mbits_Len := ⟨tabB_sound Rbtab_ok, conOf_sound ⟨Rbh_mbits_Len64, trivial⟩⟩
theorem Rbat_mbits_Len : FnAt Tryz.prog 181 Tryz.f181.ntmps Tryz.f181.results.toList (Tryz.f181.body.getD .skip) := ⟨Tryz.f181, Tryz.func181, rfl, rfl, by simp, by decide⟩
theorem Rbeq_mbits_Len (post : Int × Unit → Prop) : fnEval Rbx_mbits_Len noHn Tryz.f181.ntmps Tryz.f181.results.toList (Tryz.f181.body.getD .skip) [.int .u64] [.snap (.int .i64)] ((3 : Int), ()) post = (∃ (h : IsThree 3), post ((2 : Int), ())) := by kernel_rfl
theorem Rbh_mbits_Len : Rbq_mbits_Len.holds Tryz.prog RbG 181 := by
  refine det_holds Rbx_mbits_Len_ok Rbmixed noHn Rbat_mbits_Len ?_
  rintro ⟨a, ⟨⟩⟩ h
  have h : a = (3 : Int) := h
  subst h
  exact (Rbeq_mbits_Len _).mpr ⟨rfl, rfl⟩
def Rbq_sum_Three : Con := .det [.flt .f64, .flt .f64, .flt .f64] [.snap (.flt .f64)] (fun x => W3 x.1 x.2.1 x.2.2.1) (fun x => threeR x.1 x.2.1 x.2.2.1)
def Rbhn_sum_Three : Hn := { loops := fun _ => none, joins := fun _ => none, inl := inlL [167] }
def Rbx_sum_Three : Cx := ⟨tabOf Rbtab, conOf [(168, Rbq_sum_Three_c1), (171, Rbq_sum_row), (181, Rbq_mbits_Len)], RbG⟩
theorem Rbx_sum_Three_ok : CxOk Tryz.prog Rbx_sum_Three := ⟨tabB_sound Rbtab_ok, conOf_sound ⟨Rbh_sum_Three_c1, Rbh_sum_row, Rbh_mbits_Len, trivial⟩⟩
theorem Rbat_sum_Three : FnAt Tryz.prog 149 Tryz.f149.ntmps Tryz.f149.results.toList (Tryz.f149.body.getD .skip) := ⟨Tryz.f149, Tryz.func149, rfl, rfl, by simp, by decide⟩
theorem Rbeq_sum_Three (a : Nat) (b : Nat) (c : Nat) (post : Nat × Unit → Prop) : fnEvalI Rbx_sum_Three Rbhn_sum_Three (callLvl Rbx_sum_Three Rbfns_sort3 5) Tryz.f149.ntmps Tryz.f149.results.toList (Tryz.f149.body.getD .skip) [.flt .f64, .flt .f64, .flt .f64] [.snap (.flt .f64)] (a, b, c, ()) post = Fx_sum_Three  a b c post := by kernel_rfl
theorem Rbh_sum_Three : Rbq_sum_Three.holds Tryz.prog RbG 149 :=
  detPI Rbx_sum_Three_ok Rbmixed Rbhn_sum_Three (callLvl_ok Rbx_sum_Three_ok Rbmixed Rbfns_sort3_ok 5) Rbat_sum_Three (F := fun x post => Fx_sum_Three  x.1 x.2.1 x.2.2.1 post) (fun x post => Rbeq_sum_Three x.1 x.2.1 x.2.2.1 post) fun x h _ => Lx_sum_Three  x.1 x.2.1 x.2.2.1 h
end Go.Lift

set_option linter.unusedVariables false
set_option linter.unusedSimpArgs false
namespace Go.Lift
open Go.Proofs
def Rbq_vec_canon : Con := .det [.flt .f64, .flt .f64, .flt .f64] [.snap kVec] (fun _ => True) (fun x => canonVR x.1 x.2.1 x.2.2.1)
def Rbx_vec_canon : Cx := ⟨tabOf Rbtab, conOf [(88, Rbq_bits_Canon)], RbG⟩
theorem Rbx_vec_canon_ok : CxOk Tryz.prog Rbx_vec_canon := ⟨tabB_sound Rbtab_ok, conOf_sound ⟨Rbh_bits_Canon, trivial⟩⟩
theorem Rbat_vec_canon : FnAt Tryz.prog 150 Tryz.f150.ntmps Tryz.f150.results.toList (Tryz.f150.body.getD .skip) := ⟨Tryz.f150, Tryz.func150, rfl, rfl, by simp, by decide⟩
theorem Rbeq_vec_canon (a : Nat) (b : Nat) (c : Nat) (post : (Nat × Nat × Nat) × Unit → Prop) : fnEval Rbx_vec_canon nHn Tryz.f150.ntmps Tryz.f150.results.toList (Tryz.f150.body.getD .skip) [.flt .f64, .flt .f64, .flt .f64] [.snap kVec] (a, b, c, ()) post = Fx_vec_canon  a b c post := by kernel_rfl
theorem Rbh_vec_canon : Rbq_vec_canon.holds Tryz.prog RbG 150 :=
  detP Rbx_vec_canon_ok Rbmixed nHn Rbat_vec_canon (F := fun x post => Fx_vec_canon  x.1 x.2.1 x.2.2.1 post) (fun x post => Rbeq_vec_canon x.1 x.2.1 x.2.2.1 post) fun x _ _ => Lx_vec_canon  x.1 x.2.1 x.2.2.1
def Rbq_vec_Minus : Con := .det [kVec, kVec] [.snap kVec] (fun x => WV2 x.1 x.2.1) (fun x => minusR x.1 x.2.1)
def Rbx_vec_Minus : Cx := ⟨tabOf Rbtab, conOf [(150, Rbq_vec_canon)], RbG⟩
theorem Rbx_vec_Minus_ok : CxOk Tryz.prog Rbx_vec_Minus := ⟨tabB_sound Rbtab_ok, conOf_sound ⟨Rbh_vec_canon, trivial⟩⟩
theorem Rbat_vec_Minus : FnAt Tryz.prog 125 Tryz.f125.ntmps Tryz.f125.results.toList (Tryz.f125.body.getD .skip) := ⟨Tryz.f125, Tryz.func125, rfl, rfl, by simp, by decide⟩
theorem Rbeq_vec_Minus (a : Nat × Nat × Nat) (b : Nat × Nat × Nat) (post : (Nat × Nat × Nat) × Unit → Prop) : fnEval Rbx_vec_Minus nHn Tryz.f125.ntmps Tryz.f125.results.toList (Tryz.f125.body.getD .skip) [kVec, kVec] [.snap kVec] (a, b, ()) post = Fx_vec_Minus  a b post := by kernel_rfl
theorem Rbh_vec_Minus : Rbq_vec_Minus.holds Tryz.prog RbG 125 :=
  detP Rbx_vec_Minus_ok Rbmixed nHn Rbat_vec_Minus (F := fun x post => Fx_vec_Minus  x.1 x.2.1 post) (fun x post => Rbeq_vec_Minus x.1 x.2.1 post) fun x h _ => Lx_vec_Minus  x.1 x.2.1 h
def Rbq_vec_Cross : Con := .det [kVec, kVec] [.snap kVec] (fun _ => True) (fun x => crossR x.1 x.2.1)
def Rbx_vec_Cross : Cx := ⟨tabOf Rbtab, conOf [(150, Rbq_vec_canon)], RbG⟩
theorem Rbx_vec_Cross_ok : CxOk Tryz.prog Rbx_vec_Cross := ⟨tabB_sound Rbtab_ok, conOf_sound ⟨Rbh_vec_canon, trivial⟩⟩
theorem Rbat_vec_Cross : FnAt Tryz.prog 124 Tryz.f124.ntmps Tryz.f124.results.toList (Tryz.f124.body.getD .skip) := ⟨Tryz.f124, Tryz.func124, rfl, rfl, by simp, by decide⟩
theorem Rbeq_vec_Cross (a : Nat × Nat × Nat) (b : Nat × Nat × Nat) (post : (Nat × Nat × Nat) × Unit → Prop) : fnEval Rbx_vec_Cross nHn Tryz.f124.ntmps Tryz.f124.results.toList (Tryz.f124.body.getD .skip) [kVec, kVec] [.snap kVec] (a, b, ()) post = Fx_vec_Cross  a b post := by kernel_rfl
theorem Rbh_vec_Cross : Rbq_vec_Cross.holds Tryz.prog RbG 124 :=
  detP Rbx_vec_Cross_ok Rbmixed nHn Rbat_vec_Cross (F := fun x post => Fx_vec_Cross  x.1 x.2.1 post) (fun x post => Rbeq_vec_Cross x.1 x.2.1 post) fun x _ _ => Lx_vec_Cross  x.1 x.2.1
def Rbq_math_Sqrt : Con := .rel [.flt .f64] [.snap (.flt .f64)] (fun _ => True) (fun x r => sqrtP x.1 r) (fun x h => relF_ne (sqrtQ_q _) (sqrtQ_w _))
def Rbx_math_Sqrt : Cx := ⟨tabOf Rbtab, conOf [(166, Rbq_math_sqrt)], RbG⟩
theorem Rbx_math_Sqrt_ok : CxOk Tryz.prog Rbx_math_Sqrt := ⟨tabB_sound Rbtab_ok, conOf_sound ⟨Rbh_math_sqrt, trivial⟩⟩
theorem Rbat_math_Sqrt : FnAt Tryz.prog 148 Tryz.f148.ntmps Tryz.f148.results.toList (Tryz.f148.body.getD .skip) := ⟨Tryz.f148, Tryz.func148, rfl, rfl, by simp, by decide⟩
theorem Rbeq_math_Sqrt (a : Nat) (post : Nat × Unit → Prop) : fnEval Rbx_math_Sqrt nHn Tryz.f148.ntmps Tryz.f148.results.toList (Tryz.f148.body.getD .skip) [.flt .f64] [.snap (.flt .f64)] (a, ()) post = Fx_math_Sqrt  a post := by kernel_rfl
theorem Rbh_math_Sqrt : Rbq_math_Sqrt.holds Tryz.prog RbG 148 :=
  relP Rbx_math_Sqrt_ok Rbmixed nHn Rbat_math_Sqrt (F := fun x post => Fx_math_Sqrt  x.1 post) (fun x post => Rbeq_math_Sqrt x.1 post) fun x _ _ => Lx_math_Sqrt  x.1
def Rbq_vec_Length : Con := .det [kVec] [.snap (.flt .f64)] (fun x => WV x.1) (fun x => lengthR x.1)
def Rbx_vec_Length : Cx := ⟨tabOf Rbtab, conOf [(149, Rbq_sum_Three), (148, Rbq_math_Sqrt), (88, Rbq_bits_Canon)], RbG⟩
theorem Rbx_vec_Length_ok : CxOk Tryz.prog Rbx_vec_Length := ⟨tabB_sound Rbtab_ok, conOf_sound ⟨Rbh_sum_Three, Rbh_math_Sqrt, Rbh_bits_Canon, trivial⟩⟩
theorem Rbat_vec_Length : FnAt Tryz.prog 123 Tryz.f123.ntmps Tryz.f123.results.toList (Tryz.f123.body.getD .skip) := ⟨Tryz.f123, Tryz.func123, rfl, rfl, by simp, by decide⟩
theorem Rbeq_vec_Length (a : Nat × Nat × Nat) (post : Nat × Unit → Prop) : fnEval Rbx_vec_Length nHn Tryz.f123.ntmps Tryz.f123.results.toList (Tryz.f123.body.getD .skip) [kVec] [.snap (.flt .f64)] (a, ()) post = Fx_vec_Length  a post := by kernel_rfl
theorem Rbh_vec_Length : Rbq_vec_Length.holds Tryz.prog RbG 123 :=
  detP Rbx_vec_Length_ok Rbmixed nHn Rbat_vec_Length (F := fun x post => Fx_vec_Length  x.1 post) (fun x post => Rbeq_vec_Length x.1 post) fun x h _ => Lx_vec_Length  x.1 h
def Rbq_vec_Gap : Con := .det [kVec, kVec] [.snap (.flt .f64)] (fun x => WV2 x.1 x.2.1) (fun x => gapR x.1 x.2.1)
def Rbx_vec_Gap : Cx := ⟨tabOf Rbtab, conOf [(125, Rbq_vec_Minus), (123, Rbq_vec_Length)], RbG⟩
theorem Rbx_vec_Gap_ok : CxOk Tryz.prog Rbx_vec_Gap := ⟨tabB_sound Rbtab_ok, conOf_sound ⟨Rbh_vec_Minus, Rbh_vec_Length, trivial⟩⟩
theorem Rbat_vec_Gap : FnAt Tryz.prog 100 Tryz.f100.ntmps Tryz.f100.results.toList (Tryz.f100.body.getD .skip) := ⟨Tryz.f100, Tryz.func100, rfl, rfl, by simp, by decide⟩
theorem Rbeq_vec_Gap (a : Nat × Nat × Nat) (b : Nat × Nat × Nat) (post : Nat × Unit → Prop) : fnEval Rbx_vec_Gap nHn Tryz.f100.ntmps Tryz.f100.results.toList (Tryz.f100.body.getD .skip) [kVec, kVec] [.snap (.flt .f64)] (a, b, ()) post = Fx_vec_Gap  a b post := by kernel_rfl
theorem Rbh_vec_Gap : Rbq_vec_Gap.holds Tryz.prog RbG 100 :=
  detP Rbx_vec_Gap_ok Rbmixed nHn Rbat_vec_Gap (F := fun x post => Fx_vec_Gap  x.1 x.2.1 post) (fun x post => Rbeq_vec_Gap x.1 x.2.1 post) fun x h _ => Lx_vec_Gap  x.1 x.2.1 h
def Rbq_vec_Unit : Con := .det [kVec] [.snap kVec] (fun x => WV x.1) (fun x => unitR x.1)
def Rbx_vec_Unit : Cx := ⟨tabOf Rbtab, conOf [(123, Rbq_vec_Length), (173, Rbq_math_IsInf), (150, Rbq_vec_canon)], RbG⟩
theorem Rbx_vec_Unit_ok : CxOk Tryz.prog Rbx_vec_Unit := ⟨tabB_sound Rbtab_ok, conOf_sound ⟨Rbh_vec_Length, Rbh_math_IsInf, Rbh_vec_canon, trivial⟩⟩
theorem Rbat_vec_Unit : FnAt Tryz.prog 153 Tryz.f153.ntmps Tryz.f153.results.toList (Tryz.f153.body.getD .skip) := ⟨Tryz.f153, Tryz.func153, rfl, rfl, by simp, by decide⟩
theorem Rbeq_vec_Unit (a : Nat × Nat × Nat) (post : (Nat × Nat × Nat) × Unit → Prop) : fnEval Rbx_vec_Unit nHn Tryz.f153.ntmps Tryz.f153.results.toList (Tryz.f153.body.getD .skip) [kVec] [.snap kVec] (a, ()) post = Fx_vec_Unit  a post := by kernel_rfl
theorem Rbh_vec_Unit : Rbq_vec_Unit.holds Tryz.prog RbG 153 :=
  detP Rbx_vec_Unit_ok Rbmixed nHn Rbat_vec_Unit (F := fun x post => Fx_vec_Unit  x.1 post) (fun x post => Rbeq_vec_Unit x.1 post) fun x h _ => Lx_vec_Unit  x.1 h
end Go.Lift

set_option linter.unusedVariables false
set_option linter.unusedSimpArgs false
namespace Go.Lift
def Fx_conv_FromInt := fun (a : Int) (post : Nat × Unit → Prop) => post (Go.FloatKind.f64.nearest a, ())
theorem Lx_conv_FromInt (a : Int) : Fx_conv_FromInt  a (fun r => r = ofIR a) := by
  exact rfl
def Fx_level_Depth := fun (a b : Int) (post : Nat × Unit → Prop) => ∀ (a_1 : Bool), a_1 = decide (a < (1 : Int)) → Br a_1 (post ((0 : Nat), ())) (∀ (a_2 : Bool), a_2 = decide (b <
  (1 : Int)) → Br a_2 (post ((0 : Nat), ())) (∃ (h : True), ∃ (h : True), ∀ (a_3 : Nat), FRes Go.FloatKind.f64 (Go.FloatKind.f64.format.div (ofIR a).fst (ofIR b).fst) a_3 → post
  (a_3, ())))
theorem Lx_level_Depth (a : Int) (b : Int) (h : II a b) : Fx_level_Depth  a b (fun r => r = depthR a b) := by
  rintro _ rfl
  refine Br.intro (fun e => ?_) fun e => ?_
  · exact congrArg r1 (by unfold depthQ; rw [if_pos (.inl (of_decide_eq_true e))])
  · rintro _ rfl
    refine Br.intro (fun f => ?_) fun f => ?_
    · exact congrArg r1 (by unfold depthQ; rw [if_pos (.inr (of_decide_eq_true f))])
    · have e := of_decide_eq_false e
      have f := of_decide_eq_false f
      refine ⟨trivial, trivial, fun r hr => congrArg r1 ?_⟩
      rw [div_ofI h.1 (by omega) h.2 hr]
      unfold depthQ; rw [if_neg (by omega)]
def Fx_math_Floor := fun (a : Nat) (post : Nat × Unit → Prop) => ∃ (h : WNum a), post ((floorR a).fst, ())
theorem Lx_math_Floor (a : Nat) (h : WNum a) : Fx_math_Floor  a (fun r => r = floorR a) := by
  exact ⟨h, rfl⟩
def Fx_conv_near := fun (a : Nat) (post : Int × Unit → Prop) => ∃ (h : WNum a), ∀ (a_1 : Int), F2I Go.FloatKind.f64 (floorR a).fst IntKind.u64 a_1 → ∀ (a_2 : Nat), FRes
  Go.FloatKind.f64 (Go.FloatKind.f64.format.sub a (floorR a).fst) a_2 → ∀ (a : Bool), a = fcmp Go.BinOp.gtr (Go.FloatKind.f64.format.order a_2 (4602678819172646912 : Nat)) → Br a
  (post (IntKind.u64.wrap (a_1 + (1 : Int)), ())) (∀ (a : Bool), a = fcmp Go.BinOp.eql (Go.FloatKind.f64.format.order a_2 (4602678819172646912 : Nat)) → Br a (∃ (h : (2 : Int) ≠ (0
  : Int)), ∀ (a : Bool), a = (a_1.tmod (2 : Int) == (1 : Int)) → Br a (post (IntKind.u64.wrap (a_1 + (1 : Int)), ())) (post (a_1, ()))) (post (a_1, ())))
theorem Lx_conv_near (a : Nat) (h : WNear a) : Fx_conv_near  a (fun r => r = nearR a) := by
  have hw : W64 a := by unfold WNear two63 at h; unfold W64; omega
  have hn : isN a = false := by
    have := (small_sgn (r := a) (by unfold WNear two63 at h; omega)).2.1
    unfold isN; rw [this, decide_eq_false_iff_not]; unfold WNear two63 at h; unfold infR; omega
  refine ⟨⟨hw, hn⟩, ?_⟩
  intro n hn2
  have hn2 := floor_int h hn2
  subst hn2
  intro d hd
  have hd : ∀ z, Ieee.double.order d z = Ieee.double.order (subQ a (floorF a)) z := sub_congr_order hd
  obtain ⟨_, r1', r2'⟩ := whole_rng h
  have hwp : IntKind.u64.wrap (wholeI (floorF a) + 1) = wholeI (floorF a) + 1 := wu1 ⟨by omega, by omega⟩
  have tm : (wholeI (floorF a)).tmod 2 = wholeI (floorF a) % 2 := Int.tmod_eq_emod_of_nonneg r1'
  rintro _ rfl
  refine Br.intro (fun e => ?_) fun e => ?_
  · rw [show Go.FloatKind.f64.format.order d 4602678819172646912 = _ from hd _] at e
    exact congrArg r1 (by rw [hwp]; unfold nearI; rw [if_pos (by rw [show fcmp .gtr (Ieee.double.order (subQ a (floorF a)) halfR) = true from e]; rfl)])
  · rw [show Go.FloatKind.f64.format.order d 4602678819172646912 = _ from hd _] at e
    rintro _ rfl
    refine Br.intro (fun f => ?_) fun f => ?_
    · rw [show Go.FloatKind.f64.format.order d 4602678819172646912 = _ from hd _] at f
      refine ⟨by decide, ?_⟩
      rintro _ rfl
      refine Br.intro (fun g => ?_) fun g => ?_
      · rw [tm] at g
        exact congrArg r1 (by rw [hwp]; unfold nearI; rw [if_pos (by rw [show fcmp .eql (Ieee.double.order (subQ a (floorF a)) halfR) = true from f, g, Bool.true_and, Bool.or_true])])
      · rw [tm] at g
        exact congrArg r1 (by unfold nearI; rw [if_neg (by rw [show fcmp .gtr (Ieee.double.order (subQ a (floorF a)) halfR) = false from e, g, Bool.and_false]; decide)])
    · rw [show Go.FloatKind.f64.format.order d 4602678819172646912 = _ from hd _] at f
      exact congrArg r1 (by unfold nearI; rw [if_neg (by rw [show fcmp .gtr (Ieee.double.order (subQ a (floorF a)) halfR) = false from e, show fcmp .eql (Ieee.double.order (subQ a (floorF a)) halfR) = false from f, Bool.false_and]; decide)])
def Fx_conv_Round := fun (a : Nat) (post : Int × Bool × Unit → Prop) => ∃ (h : W64 a), ∀ (a_1 : Bool), a_1 = fcmp Go.BinOp.lss (Go.FloatKind.f64.format.order (absR a).fst
  (4890909195324358656 : Nat)) → Br a_1 (∃ (h : WNear (absR a).fst), ∀ (a_2 : Bool), a_2 = fcmp Go.BinOp.lss (Go.FloatKind.f64.format.order a (0 : Nat)) → Br a_2 (post
  (IntKind.i64.wrap ((0 : Int) - IntKind.i64.wrap (nearR (absR a).fst).fst), Bool.true, ())) (post (IntKind.i64.wrap (nearR (absR a).fst).fst, Bool.true, ()))) (∀ (a_2 : Bool), a_2
  = fcmp Go.BinOp.eql (Go.FloatKind.f64.format.order a (14114281232179134464 : Nat)) → Br a_2 (post ((-9223372036854775808 : Int), Bool.true, ())) (post ((0 : Int), Bool.false,
  ())))
theorem Lx_conv_Round (a : Nat) (h : W64 a) : Fx_conv_Round  a (fun r => r = roundR a) := by
  refine ⟨h, ?_⟩
  rintro _ rfl
  refine Br.intro (fun e => ?_) fun e => ?_
  · have e : fcmp .lss (Ieee.double.order (rungOf a) two63) = true := e
    rw [lss_rung] at e
    have e := of_decide_eq_true e
    have hn : isN a = false := by unfold isN; rw [decide_eq_false_iff_not]; unfold two63 at e; unfold infR; omega
    refine ⟨e, ?_⟩
    rintro _ rfl
    refine Br.intro (fun f => ?_) fun f => ?_
    · rw [show fcmp .lss (Go.FloatKind.f64.format.order a 0) = _ from lss_nought hn] at f
      unfold roundR roundI; rw [if_pos e, if_pos f]; rfl
    · rw [show fcmp .lss (Go.FloatKind.f64.format.order a 0) = _ from lss_nought hn] at f
      unfold roundR roundI; rw [if_pos e, if_neg (by rw [f]; decide)]; rfl
  · have e : fcmp .lss (Ieee.double.order (rungOf a) two63) = false := e
    rw [lss_rung] at e
    have e := of_decide_eq_false e
    rintro _ rfl
    refine Br.intro (fun f => ?_) fun f => ?_
    · rw [show fcmp .eql (Go.FloatKind.f64.format.order a 14114281232179134464) = _ from eql_min h] at f
      unfold roundR roundI; rw [if_neg e, if_pos (show a = two63 + 9223372036854775808 from of_decide_eq_true f)]
    · rw [show fcmp .eql (Go.FloatKind.f64.format.order a 14114281232179134464) = _ from eql_min h] at f
      unfold roundR roundI; rw [if_neg e, if_neg (show ¬ a = two63 + 9223372036854775808 from of_decide_eq_false f)]
end Go.Lift

set_option linter.unusedVariables false
set_option linter.unusedSimpArgs false
namespace Go.Lift
open Go.Proofs
def Rbq_conv_FromInt : Con := .det [.int .i64] [.snap (.flt .f64)] (fun _ => True) (fun x => ofIR x.1)
def Rbx_conv_FromInt : Cx := ⟨tabOf Rbtab, conOf [], RbG⟩
theorem Rbx_conv_FromInt_ok : CxOk Tryz.prog Rbx_conv_FromInt := ⟨tabB_sound Rbtab_ok, fun f c h => by cases h⟩
theorem Rbat_conv_FromInt : FnAt Tryz.prog 89 Tryz.f89.ntmps Tryz.f89.results.toList (Tryz.f89.body.getD .skip) := ⟨Tryz.f89, Tryz.func89, rfl, rfl, by simp, by decide⟩
theorem Rbeq_conv_FromInt (a : Int) (post : Nat × Unit → Prop) : fnEval Rbx_conv_FromInt nHn Tryz.f89.ntmps Tryz.f89.results.toList (Tryz.f89.body.getD .skip) [.int .i64] [.snap (.flt .f64)] (a, ()) post = Fx_conv_FromInt  a post := by kernel_rfl
theorem Rbh_conv_FromInt : Rbq_conv_FromInt.holds Tryz.prog RbG 89 :=
  detP Rbx_conv_FromInt_ok Rbmixed nHn Rbat_conv_FromInt (F := fun x post => Fx_conv_FromInt  x.1 post) (fun x post => Rbeq_conv_FromInt x.1 post) fun x _ _ => Lx_conv_FromInt  x.1
def Rbq_level_Depth : Con := .det [.int .i64, .int .i64] [.snap (.flt .f64)] (fun x => II x.1 x.2.1) (fun x => depthR x.1 x.2.1)
def Rbx_level_Depth : Cx := ⟨tabOf Rbtab, conOf [(89, Rbq_conv_FromInt)], RbG⟩
theorem Rbx_level_Depth_ok : CxOk Tryz.prog Rbx_level_Depth := ⟨tabB_sound Rbtab_ok, conOf_sound ⟨Rbh_conv_FromInt, trivial⟩⟩
theorem Rbat_level_Depth : FnAt Tryz.prog 37 Tryz.f37.ntmps Tryz.f37.results.toList (Tryz.f37.body.getD .skip) := ⟨Tryz.f37, Tryz.func37, rfl, rfl, by simp, by decide⟩
theorem Rbeq_level_Depth (a : Int) (b : Int) (post : Nat × Unit → Prop) : fnEval Rbx_level_Depth nHn Tryz.f37.ntmps Tryz.f37.results.toList (Tryz.f37.body.getD .skip) [.int .i64, .int .i64] [.snap (.flt .f64)] (a, b, ()) post = Fx_level_Depth  a b post := by kernel_rfl
theorem Rbh_level_Depth : Rbq_level_Depth.holds Tryz.prog RbG 37 :=
  detP Rbx_level_Depth_ok Rbmixed nHn Rbat_level_Depth (F := fun x post => Fx_level_Depth  x.1 x.2.1 post) (fun x post => Rbeq_level_Depth x.1 x.2.1 post) fun x h _ => Lx_level_Depth  x.1 x.2.1 h
def Rbq_math_archFloor : Con := .det [.flt .f64] [.snap (.flt .f64)] (fun x => WNum x.1) (fun x => floorR x.1)
theorem Rbh_math_archFloor : Rbq_math_archFloor.holds Tryz.prog RbG 183 := by
  refine ext_floor (fn := Tryz.f183) Tryz.func183 (by decide) rfl rfl (by kernel_rfl)
def Rbq_math_Floor : Con := .det [.flt .f64] [.snap (.flt .f64)] (fun x => WNum x.1) (fun x => floorR x.1)
def Rbx_math_Floor : Cx := ⟨tabOf Rbtab, conOf [(183, Rbq_math_archFloor)], RbG⟩
theorem Rbx_math_Floor_ok : CxOk Tryz.prog Rbx_math_Floor := ⟨tabB_sound Rbtab_ok, conOf_sound ⟨Rbh_math_archFloor, trivial⟩⟩
theorem Rbat_math_Floor : FnAt Tryz.prog 172 Tryz.f172.ntmps Tryz.f172.results.toList (Tryz.f172.body.getD .skip) := ⟨Tryz.f172, Tryz.func172, rfl, rfl, by simp, by decide⟩
theorem Rbeq_math_Floor (a : Nat) (post : Nat × Unit → Prop) : fnEval Rbx_math_Floor nHn Tryz.f172.ntmps Tryz.f172.results.toList (Tryz.f172.body.getD .skip) [.flt .f64] [.snap (.flt .f64)] (a, ()) post = Fx_math_Floor  a post := by kernel_rfl
theorem Rbh_math_Floor : Rbq_math_Floor.holds Tryz.prog RbG 172 :=
  detP Rbx_math_Floor_ok Rbmixed nHn Rbat_math_Floor (F := fun x post => Fx_math_Floor  x.1 post) (fun x post => Rbeq_math_Floor x.1 post) fun x h _ => Lx_math_Floor  x.1 h
def Rbq_conv_near : Con := .det [.flt .f64] [.snap (.int .u64)] (fun x => WNear x.1) (fun x => nearR x.1)
def Rbx_conv_near : Cx := ⟨tabOf Rbtab, conOf [(172, Rbq_math_Floor)], RbG⟩
theorem Rbx_conv_near_ok : CxOk Tryz.prog Rbx_conv_near := ⟨tabB_sound Rbtab_ok, conOf_sound ⟨Rbh_math_Floor, trivial⟩⟩
theorem Rbat_conv_near : FnAt Tryz.prog 152 Tryz.f152.ntmps Tryz.f152.results.toList (Tryz.f152.body.getD .skip) := ⟨Tryz.f152, Tryz.func152, rfl, rfl, by simp, by decide⟩
theorem Rbeq_conv_near (a : Nat) (post : Int × Unit → Prop) : fnEval Rbx_conv_near nHn Tryz.f152.ntmps Tryz.f152.results.toList (Tryz.f152.body.getD .skip) [.flt .f64] [.snap (.int .u64)] (a, ()) post = Fx_conv_near  a post := by kernel_rfl
theorem Rbh_conv_near : Rbq_conv_near.holds Tryz.prog RbG 152 :=
  detP Rbx_conv_near_ok Rbmixed nHn Rbat_conv_near (F := fun x post => Fx_conv_near  x.1 post) (fun x post => Rbeq_conv_near x.1 post) fun x h _ => Lx_conv_near  x.1 h
def Rbq_conv_Round : Con := .det [.flt .f64] [.snap (.int .i64), .snap .bool] (fun x => W64 x.1) (fun x => roundR x.1)
def Rbx_conv_Round : Cx := ⟨tabOf Rbtab, conOf [(151, Rbq_math_Abs), (152, Rbq_conv_near)], RbG⟩
theorem Rbx_conv_Round_ok : CxOk Tryz.prog Rbx_conv_Round := ⟨tabB_sound Rbtab_ok, conOf_sound ⟨Rbh_math_Abs, Rbh_conv_near, trivial⟩⟩
theorem Rbat_conv_Round : FnAt Tryz.prog 126 Tryz.f126.ntmps Tryz.f126.results.toList (Tryz.f126.body.getD .skip) := ⟨Tryz.f126, Tryz.func126, rfl, rfl, by simp, by decide⟩
theorem Rbeq_conv_Round (a : Nat) (post : Int × Bool × Unit → Prop) : fnEval Rbx_conv_Round nHn Tryz.f126.ntmps Tryz.f126.results.toList (Tryz.f126.body.getD .skip) [.flt .f64] [.snap (.int .i64), .snap .bool] (a, ()) post = Fx_conv_Round  a post := by kernel_rfl
theorem Rbh_conv_Round : Rbq_conv_Round.holds Tryz.prog RbG 126 :=
  detP Rbx_conv_Round_ok Rbmixed nHn Rbat_conv_Round (F := fun x post => Fx_conv_Round  x.1 post) (fun x post => Rbeq_conv_Round x.1 post) fun x h _ => Lx_conv_Round  x.1 h
end Go.Lift

set_option linter.unusedVariables false
set_option linter.unusedSimpArgs false
namespace Go.Lift
open Go.Proofs
def Rbq_geom_ratio : Con := .det [.int .i64, .int .i64] [.snap (.flt .f64)] (fun x => WRatio x.1 x.2.1) (fun x => ratioR x.1 x.2.1)
def Rbx_geom_ratio : Cx := ⟨tabOf Rbtab, conOf [], RbG⟩
theorem Rbx_geom_ratio_ok : CxOk Tryz.prog Rbx_geom_ratio := ⟨tabB_sound Rbtab_ok, fun f c h => by cases h⟩
theorem Rbat_geom_ratio : FnAt Tryz.prog 129 Tryz.f129.ntmps Tryz.f129.results.toList (Tryz.f129.body.getD .skip) := ⟨Tryz.f129, Tryz.func129, rfl, rfl, by simp, by decide⟩
theorem Rbeq_geom_ratio (a : Int) (b : Int) (post : Nat × Unit → Prop) : fnEval Rbx_geom_ratio nHn Tryz.f129.ntmps Tryz.f129.results.toList (Tryz.f129.body.getD .skip) [.int .i64, .int .i64] [.snap (.flt .f64)] (a, b, ()) post = Fx_geom_ratio  a b post := by kernel_rfl
theorem Rbh_geom_ratio : Rbq_geom_ratio.holds Tryz.prog RbG 129 :=
  detP Rbx_geom_ratio_ok Rbmixed nHn Rbat_geom_ratio (F := fun x post => Fx_geom_ratio  x.1 x.2.1 post) (fun x post => Rbeq_geom_ratio x.1 x.2.1 post) fun x h _ => Lx_geom_ratio  x.1 x.2.1 h
def Rbq_geom_point : Con := .det [.int .i64, .flt .f64, .flt .f64] [.snap kVec] (fun x => WPoint x.1 x.2.1 x.2.2.1) (fun x => pointR x.1 x.2.1 x.2.2.1)
def Rbhn_geom_point : Hn := { loops := fun _ => none, joins := hintH [(13, { ls := [], os := [(1, 169, .flt .f64)] })], unroll := fun _ => some 4 }
def Rbx_geom_point : Cx := ⟨tabOf Rbtab, conOf [(88, Rbq_bits_Canon), (153, Rbq_vec_Unit)], RbG⟩
theorem Rbx_geom_point_ok : CxOk Tryz.prog Rbx_geom_point := ⟨tabB_sound Rbtab_ok, conOf_sound ⟨Rbh_bits_Canon, Rbh_vec_Unit, trivial⟩⟩
theorem Rbat_geom_point : FnAt Tryz.prog 128 Tryz.f128.ntmps Tryz.f128.results.toList (Tryz.f128.body.getD .skip) := ⟨Tryz.f128, Tryz.func128, rfl, rfl, by simp, by decide⟩
theorem Rbeq_geom_point (f : Int) (s : Nat) (t : Nat) (post : (Nat × Nat × Nat) × Unit → Prop) : fnEval Rbx_geom_point Rbhn_geom_point Tryz.f128.ntmps Tryz.f128.results.toList (Tryz.f128.body.getD .skip) [.int .i64, .flt .f64, .flt .f64] [.snap kVec] (f, s, t, ()) post = Fx_geom_point 130 169 f s t post := by kernel_rfl
theorem Rbh_geom_point : Rbq_geom_point.holds Tryz.prog RbG 128 :=
  detP Rbx_geom_point_ok Rbmixed Rbhn_geom_point Rbat_geom_point (F := fun x post => Fx_geom_point 130 169 x.1 x.2.1 x.2.2.1 post) (fun x post => Rbeq_geom_point x.1 x.2.1 x.2.2.1 post) fun x h _ => Lx_geom_point 130 169 x.1 x.2.1 x.2.2.1 h
def Rbq_geom_Corner : Con := .det [.int .i64, .int .i64, .int .i64, .int .i64] [.snap kVec, .snap .bool] (fun x => IIII x.1 x.2.1 x.2.2.1 x.2.2.2.1) (fun x => cornerR x.1 x.2.1 x.2.2.1 x.2.2.2.1)
def Rbx_geom_Corner : Cx := ⟨tabOf Rbtab, conOf [(58, Rbq_cube_Cells), (129, Rbq_geom_ratio), (128, Rbq_geom_point)], RbG⟩
theorem Rbx_geom_Corner_ok : CxOk Tryz.prog Rbx_geom_Corner := ⟨tabB_sound Rbtab_ok, conOf_sound ⟨Rbh_cube_Cells, Rbh_geom_ratio, Rbh_geom_point, trivial⟩⟩
theorem Rbat_geom_Corner : FnAt Tryz.prog 127 Tryz.f127.ntmps Tryz.f127.results.toList (Tryz.f127.body.getD .skip) := ⟨Tryz.f127, Tryz.func127, rfl, rfl, by simp, by decide⟩
theorem Rbeq_geom_Corner (n : Int) (f : Int) (i : Int) (j : Int) (post : (Nat × Nat × Nat) × Bool × Unit → Prop) : fnEval Rbx_geom_Corner nHn Tryz.f127.ntmps Tryz.f127.results.toList (Tryz.f127.body.getD .skip) [.int .i64, .int .i64, .int .i64, .int .i64] [.snap kVec, .snap .bool] (n, f, i, j, ()) post = Fx_geom_Corner  n f i j post := by kernel_rfl
theorem Rbh_geom_Corner : Rbq_geom_Corner.holds Tryz.prog RbG 127 :=
  detP Rbx_geom_Corner_ok Rbmixed nHn Rbat_geom_Corner (F := fun x post => Fx_geom_Corner  x.1 x.2.1 x.2.2.1 x.2.2.2.1 post) (fun x post => Rbeq_geom_Corner x.1 x.2.1 x.2.2.1 x.2.2.2.1 post) fun x h _ => Lx_geom_Corner  x.1 x.2.1 x.2.2.1 x.2.2.2.1 h
def Rbq_geom_corners : Con := .det [.int .i64, .int .i64] [.snap (.arr 4 kVec), .snap .bool] (fun x => II x.1 x.2.1) (fun x => cornersR x.1 x.2.1)
def Rbhn_geom_corners : Hn := { loops := fun _ => none, joins := fun _ => none, unroll := fun _ => some 5 }
def Rbx_geom_corners : Cx := ⟨tabOf Rbtab, conOf [(79, Rbq_cube_Place), (127, Rbq_geom_Corner)], RbG⟩
theorem Rbx_geom_corners_ok : CxOk Tryz.prog Rbx_geom_corners := ⟨tabB_sound Rbtab_ok, conOf_sound ⟨Rbh_cube_Place, Rbh_geom_Corner, trivial⟩⟩
theorem Rbat_geom_corners : FnAt Tryz.prog 99 Tryz.f99.ntmps Tryz.f99.results.toList (Tryz.f99.body.getD .skip) := ⟨Tryz.f99, Tryz.func99, rfl, rfl, by simp, by decide⟩
theorem Rbeq_geom_corners (n : Int) (c : Int) (post : (List (Nat × Nat × Nat)) × Bool × Unit → Prop) : fnEval Rbx_geom_corners Rbhn_geom_corners Tryz.f99.ntmps Tryz.f99.results.toList (Tryz.f99.body.getD .skip) [.int .i64, .int .i64] [.snap (.arr 4 kVec), .snap .bool] (n, c, ()) post = Fx_geom_corners  n c post := by kernel_rfl
theorem Rbh_geom_corners : Rbq_geom_corners.holds Tryz.prog RbG 99 :=
  detP Rbx_geom_corners_ok Rbmixed Rbhn_geom_corners Rbat_geom_corners (F := fun x post => Fx_geom_corners  x.1 x.2.1 post) (fun x post => Rbeq_geom_corners x.1 x.2.1 post) fun x h _ => Lx_geom_corners  x.1 x.2.1 h
def Rbq_geom_Area : Con := .det [.int .i64, .int .i64] [.snap (.int .i64)] (fun x => II x.1 x.2.1) (fun x => areaR x.1 x.2.1)
def Rbx_geom_Area : Cx := ⟨tabOf Rbtab, conOf [(99, Rbq_geom_corners), (125, Rbq_vec_Minus), (124, Rbq_vec_Cross), (123, Rbq_vec_Length), (126, Rbq_conv_Round)], RbG⟩
theorem Rbx_geom_Area_ok : CxOk Tryz.prog Rbx_geom_Area := ⟨tabB_sound Rbtab_ok, conOf_sound ⟨Rbh_geom_corners, Rbh_vec_Minus, Rbh_vec_Cross, Rbh_vec_Length, Rbh_conv_Round, trivial⟩⟩
theorem Rbat_geom_Area : FnAt Tryz.prog 98 Tryz.f98.ntmps Tryz.f98.results.toList (Tryz.f98.body.getD .skip) := ⟨Tryz.f98, Tryz.func98, rfl, rfl, by simp, by decide⟩
theorem Rbeq_geom_Area (n : Int) (c : Int) (post : Int × Unit → Prop) : fnEval Rbx_geom_Area nHn Tryz.f98.ntmps Tryz.f98.results.toList (Tryz.f98.body.getD .skip) [.int .i64, .int .i64] [.snap (.int .i64)] (n, c, ()) post = Fx_geom_Area  n c post := by kernel_rfl
theorem Rbh_geom_Area : Rbq_geom_Area.holds Tryz.prog RbG 98 :=
  detP Rbx_geom_Area_ok Rbmixed nHn Rbat_geom_Area (F := fun x post => Fx_geom_Area  x.1 x.2.1 post) (fun x post => Rbeq_geom_Area x.1 x.2.1 post) fun x h _ => Lx_geom_Area  x.1 x.2.1 h
end Go.Lift

set_option linter.unusedVariables false
set_option linter.unusedSimpArgs false
namespace Go.Lift
open Go.Proofs
def Rbq_geom_Middle : Con := Con.nam [.int .i64, .int .i64] [.snap kVec, .snap .bool] (fun x => II x.1 x.2.1) (fun x => middleR x.1 x.2.1)
def Rbx_geom_Middle : Cx := ⟨tabOf Rbtab, conOf [(79, Rbq_cube_Place), (129, Rbq_geom_ratio), (128, Rbq_geom_point)], RbG⟩
theorem Rbx_geom_Middle_ok : CxOk Tryz.prog Rbx_geom_Middle := ⟨tabB_sound Rbtab_ok, conOf_sound ⟨Rbh_cube_Place, Rbh_geom_ratio, Rbh_geom_point, trivial⟩⟩
theorem Rbat_geom_Middle : FnAt Tryz.prog 101 Tryz.f101.ntmps Tryz.f101.results.toList (Tryz.f101.body.getD .skip) := ⟨Tryz.f101, Tryz.func101, rfl, rfl, by simp, by decide⟩
theorem Rbeq_geom_Middle (n : Int) (c : Int) (post : (Nat × Nat × Nat) × Bool × Unit → Prop) : fnEval Rbx_geom_Middle nHn Tryz.f101.ntmps Tryz.f101.results.toList (Tryz.f101.body.getD .skip) [.int .i64, .int .i64] [.snap kVec, .snap .bool] (n, c, ()) post = Fx_geom_Middle  n c post := by kernel_rfl
theorem Rbh_geom_Middle : Rbq_geom_Middle.holds Tryz.prog RbG 101 :=
  nam_of_det (detP Rbx_geom_Middle_ok Rbmixed nHn Rbat_geom_Middle (F := fun x post => Fx_geom_Middle  x.1 x.2.1 post) (fun x post => Rbeq_geom_Middle x.1 x.2.1 post) fun x h _ => Lx_geom_Middle  x.1 x.2.1 h)
def Rbq_geom_Length : Con := Con.nam [.int .i64, .int .i64, .int .i64] [.snap (.flt .f64)] (fun x => III x.1 x.2.1 x.2.2.1) (fun x => lengthGR x.1 x.2.1 x.2.2.1)
def Rbhn_geom_Length : Hn := nHn
def Rbx_geom_Length : Cx := ⟨tabOf Rbtab, conOf [(99, Rbq_geom_corners), (100, Rbq_vec_Gap)], RbG⟩
theorem Rbx_geom_Length_ok : CxOk Tryz.prog Rbx_geom_Length := ⟨tabB_sound Rbtab_ok, conOf_sound ⟨Rbh_geom_corners, Rbh_vec_Gap, trivial⟩⟩
theorem Rbat_geom_Length : FnAt Tryz.prog 61 Tryz.f61.ntmps Tryz.f61.results.toList (Tryz.f61.body.getD .skip) := ⟨Tryz.f61, Tryz.func61, rfl, rfl, by simp, by decide⟩
theorem Rbeq_geom_Length (n : Int) (c : Int) (o : Int) (post : Nat × Unit → Prop) : fnEval Rbx_geom_Length Rbhn_geom_Length Tryz.f61.ntmps Tryz.f61.results.toList (Tryz.f61.body.getD .skip) [.int .i64, .int .i64, .int .i64] [.snap (.flt .f64)] (n, c, o, ()) post = Fx_geom_Length  n c o post := by kernel_rfl
theorem Rbh_geom_Length : Rbq_geom_Length.holds Tryz.prog RbG 61 :=
  nam_of_det (detP Rbx_geom_Length_ok Rbmixed Rbhn_geom_Length Rbat_geom_Length (F := fun x post => Fx_geom_Length  x.1 x.2.1 x.2.2.1 post) (fun x post => Rbeq_geom_Length x.1 x.2.1 x.2.2.1 post) fun x h _ => Lx_geom_Length  x.1 x.2.1 x.2.2.1 h)
def Rbq_geom_Gap : Con := Con.nam [.int .i64, .int .i64, .int .i64] [.snap (.flt .f64)] (fun x => III x.1 x.2.1 x.2.2.1) (fun x => gapGR x.1 x.2.1 x.2.2.1)
def Rbhn_geom_Gap : Hn := nHn
def Rbx_geom_Gap : Cx := ⟨tabOf Rbtab, conOf [(35, Rbq_cube_Beside), (101, Rbq_geom_Middle), (100, Rbq_vec_Gap)], RbG⟩
theorem Rbx_geom_Gap_ok : CxOk Tryz.prog Rbx_geom_Gap := ⟨tabB_sound Rbtab_ok, conOf_sound ⟨Rbh_cube_Beside, Rbh_geom_Middle, Rbh_vec_Gap, trivial⟩⟩
theorem Rbat_geom_Gap : FnAt Tryz.prog 62 Tryz.f62.ntmps Tryz.f62.results.toList (Tryz.f62.body.getD .skip) := ⟨Tryz.f62, Tryz.func62, rfl, rfl, by simp, by decide⟩
theorem Rbeq_geom_Gap (n : Int) (c : Int) (o : Int) (post : Nat × Unit → Prop) : fnEval Rbx_geom_Gap Rbhn_geom_Gap Tryz.f62.ntmps Tryz.f62.results.toList (Tryz.f62.body.getD .skip) [.int .i64, .int .i64, .int .i64] [.snap (.flt .f64)] (n, c, o, ()) post = Fx_geom_Gap  n c o post := by kernel_rfl
theorem Rbh_geom_Gap : Rbq_geom_Gap.holds Tryz.prog RbG 62 :=
  nam_of_det (detP Rbx_geom_Gap_ok Rbmixed Rbhn_geom_Gap Rbat_geom_Gap (F := fun x post => Fx_geom_Gap  x.1 x.2.1 x.2.2.1 post) (fun x post => Rbeq_geom_Gap x.1 x.2.1 x.2.2.1 post) fun x h _ => Lx_geom_Gap  x.1 x.2.1 x.2.2.1 h)
end Go.Lift

set_option linter.unusedVariables false
set_option linter.unusedSimpArgs false
namespace Go.Lift
open Go.Proofs
def Rbq_grid_New : Con := .det [.int .i64] [.snap (.ptr kGrid), .snap (.int .i64)] (fun x => I64 x.1) (fun x => newR x.1)
def Rbhn_grid_New : Hn := { loops := hintH [(9, { ls := [(.slot 36, .data (.int .i64)), (.cell 1 1, .row 91 kEdge), (.cell 1 4, .row 2 (.int .i64))], os := [(0, 83, .ent (.pair (.int .i64) (.int .i64)) (.int .i64))] }), (15, { ls := [(.slot 49, .data (.int .i64)), (.cell 1 3, .row 92 (.arr 2 (.int .i64))), (.cell 1 5, .row 59 (.flt .f64)), (.cell 1 6, .row 59 (.flt .f64))], os := [] })], joins := fun _ => none, inl := inlL [59, 60], unroll := fun k => if k = 6 then some 3 else none }
def Rbx_grid_New : Cx := ⟨tabOf Rbtab, conOf [(58, Rbq_cube_Cells), (35, Rbq_cube_Beside), (98, Rbq_geom_Area), (61, Rbq_geom_Length), (62, Rbq_geom_Gap)], RbG⟩
theorem Rbx_grid_New_ok : CxOk Tryz.prog Rbx_grid_New := ⟨tabB_sound Rbtab_ok, conOf_sound ⟨Rbh_cube_Cells, Rbh_cube_Beside, Rbh_geom_Area, Rbh_geom_Length, Rbh_geom_Gap, trivial⟩⟩
theorem Rbat_grid_New : FnAt Tryz.prog 24 Tryz.f24.ntmps Tryz.f24.results.toList (Tryz.f24.body.getD .skip) := ⟨Tryz.f24, Tryz.func24, rfl, rfl, by simp, by decide⟩
theorem Rbeq_grid_New (n : Int) (post : (Option (Int × (List (Int × Int × Int × Int)) × (List ((Int × Int) × Int)) × (List (List Int)) × (List Int) × (List Nat) × List Nat)) × Int × Unit → Prop) : fnEvalI Rbx_grid_New Rbhn_grid_New (callLvl Rbx_grid_New Rbfns_grid 6) Tryz.f24.ntmps Tryz.f24.results.toList (Tryz.f24.body.getD .skip) [.int .i64] [.snap (.ptr kGrid), .snap (.int .i64)] (n, ()) post = Fx_grid_New 87 88 2 91 59 60 n post := by kernel_rfl
theorem Rbh_grid_New : Rbq_grid_New.holds Tryz.prog RbG 24 :=
  detPI Rbx_grid_New_ok Rbmixed Rbhn_grid_New (callLvl_ok Rbx_grid_New_ok Rbmixed Rbfns_grid_ok 6) Rbat_grid_New (F := fun x post => Fx_grid_New 87 88 2 91 59 60 x.1 post) (fun x post => Rbeq_grid_New x.1 post) fun x h _ => Lx_grid_New 87 88 2 91 59 60 x.1 h
end Go.Lift

set_option linter.unusedVariables false
set_option linter.unusedSimpArgs false
namespace Go.Lift
def Fx_river_Run_0 := fun (s : List Nat × List Int × List Int × List Nat × Int × Int) (post : List Int × List Int × Int × Unit → Prop) => post ([], [], (2 : Int), ())
theorem Lx_river_Run_0 (s : (List Nat) × (List Int) × (List Int) × (List Nat) × Int × Int) (h : WRun none s) (w : KS.wf [.ptr kGrid, kSea] (none, s, ())) : Fx_river_Run_0  s (fun r => r = runFR none s) := by
  exact rfl
def Fx_river_Run_1 := fun (ty39 ty2 ty3 : Nat) (g : Int × List (Int × Int × Int × Int) × List ((Int × Int) × Int) × List (List Int) × List Int × List Nat × List Nat) (s : List Nat ×
  List Int × List Int × List Nat × Int × Int) (post : List Int × List Int × Int × Unit → Prop) => ∃ (h : True), ∀ (a : Bool), a = ((↑s.fst.length : Int) != (nCellsR (Option.some
  g)).fst) → Br a (post ([], [], (1 : Int), ())) (∀ (a : Bool), a = ((↑s.snd.fst.length : Int) != (nCellsR (Option.some g)).fst) → Br a (post ([], [], (1 : Int), ())) (∀ (a : Bool),
  a = ((↑s.snd.snd.fst.length : Int) != (nCellsR (Option.some g)).fst) → Br a (post ([], [], (1 : Int), ())) (∃ (h : True), ∀ (a : Bool), a = ((↑s.snd.snd.snd.fst.length : Int) !=
  (nEdgesR (Option.some g)).fst) → Br a (post ([], [], (1 : Int), ())) (∃ (h : True), ∀ (a : Bool × Unit), a = keptR s.snd.fst → ∀ (a_1 : Bool), a_1 = a.fst → Br (!a_1) (post ([],
  [], (1 : Int), ())) (∃ (h : True), ∀ (a : Bool × Unit), a = keptR s.snd.snd.fst → ∀ (a_2 : Bool), a_2 = a.fst → Br (!a_2) (post ([], [], (1 : Int), ())) (∃ (h : WSame s.snd.fst),
  ∀ (a : List Int × Unit), a = sameLR s.snd.fst → ∃ (h : WSame s.snd.snd.fst), ∀ (a_3 : List Int × Unit), a_3 = sameLR s.snd.snd.fst → ∃ (h : WOrd s.fst), ∀ (a_4 : List Int × Unit),
  a_4 = ordLR s.fst → HIs [HObj.box Md.rw ty39 [SV.data (K.flt Go.FloatKind.f64).slice s.fst, SV.data (K.int IntKind.i64).slice s.snd.fst, SV.data (K.int IntKind.i64).slice
  s.snd.snd.fst, SV.data (K.flt Go.FloatKind.f64).slice s.snd.snd.snd.fst, SV.val (Go.Value.int IntKind.i64 s.snd.snd.snd.snd.fst), SV.val (Go.Value.int IntKind.i64
  s.snd.snd.snd.snd.snd)], HObj.row Md.rw ty2 (K.int IntKind.i64) a.fst, HObj.row Md.rw ty2 (K.int IntKind.i64) a_3.fst, HObj.row Md.rw ty3 (K.int IntKind.i64) a_4.fst] [HObj.box
  Md.rw ty39 [SV.data (K.flt Go.FloatKind.f64).slice s.fst, SV.data (K.int IntKind.i64).slice s.snd.fst, SV.data (K.int IntKind.i64).slice s.snd.snd.fst, SV.data (K.flt
  Go.FloatKind.f64).slice s.snd.snd.snd.fst, SV.val (Go.Value.int IntKind.i64 s.snd.snd.snd.snd.fst), SV.val (Go.Value.int IntKind.i64 s.snd.snd.snd.snd.snd)], HObj.row Md.rw ty2
  (K.int IntKind.i64) a.fst, HObj.row Md.rw ty2 (K.int IntKind.i64) a_3.fst, HObj.row Md.rw ty3 (K.int IntKind.i64) a_4.fst] ∧ ∃ (I : Int × Unit → List Int × List Int × Unit →
  Prop), ∃ (μ : Int × Unit → List Int × List Int × Unit → Nat), I ((0 : Int), ()) (a.fst, a_3.fst, ()) ∧ ∀ (x : Int × Unit) (y : List Int × List Int × Unit), I x y → ∀ (a_5 : Bool),
  a_5 = decide (x.fst < (↑a_4.fst.length : Int)) → Br a_5 (∃ (h : (0 : Int) ≤ x.fst ∧ x.fst < (↑a_4.fst.length : Int)), ∃ (h : WRvDown (Option.some g) s.fst (a_4.fst.getD ((0 : Nat)
  + x.fst.toNat) (0 : Int))), ∀ (a_6 : Int × Unit), a_6 = rvDownR (Option.some g) s.fst (a_4.fst.getD ((0 : Nat) + x.fst.toNat) (0 : Int)) → ∀ (a_7 : Bool), a_7 = decide (a_6.fst <
  (0 : Int)) → Br a_7 (HIs [HObj.box Md.rw ty39 [SV.data (K.flt Go.FloatKind.f64).slice s.fst, SV.data (K.int IntKind.i64).slice s.snd.fst, SV.data (K.int IntKind.i64).slice
  s.snd.snd.fst, SV.data (K.flt Go.FloatKind.f64).slice s.snd.snd.snd.fst, SV.val (Go.Value.int IntKind.i64 s.snd.snd.snd.snd.fst), SV.val (Go.Value.int IntKind.i64
  s.snd.snd.snd.snd.snd)], HObj.row Md.rw ty2 (K.int IntKind.i64) y.fst, HObj.row Md.rw ty2 (K.int IntKind.i64) y.snd.fst, HObj.row Md.rw ty3 (K.int IntKind.i64) a_4.fst] [HObj.box
  Md.rw ty39 [SV.data (K.flt Go.FloatKind.f64).slice s.fst, SV.data (K.int IntKind.i64).slice s.snd.fst, SV.data (K.int IntKind.i64).slice s.snd.snd.fst, SV.data (K.flt
  Go.FloatKind.f64).slice s.snd.snd.snd.fst, SV.val (Go.Value.int IntKind.i64 s.snd.snd.snd.snd.fst), SV.val (Go.Value.int IntKind.i64 s.snd.snd.snd.snd.snd)], HObj.row Md.rw ty2
  (K.int IntKind.i64) y.fst, HObj.row Md.rw ty2 (K.int IntKind.i64) y.snd.fst, HObj.row Md.rw ty3 (K.int IntKind.i64) a_4.fst] ∧ I (IntKind.i64.wrap (x.fst + (1 : Int)), ()) (y.fst,
  y.snd.fst, ()) ∧ μ (IntKind.i64.wrap (x.fst + (1 : Int)), ()) (y.fst, y.snd.fst, ()) < μ x y) (∃ (h : (0 : Int) ≤ a_4.fst.getD ((0 : Nat) + x.fst.toNat) (0 : Int) ∧ a_4.fst.getD
  ((0 : Nat) + x.fst.toNat) (0 : Int) < (↑a.fst.length : Int)), ∀ (a_8 : Bool), a_8 = decide (y.fst.getD ((0 : Nat) + Int.toNat (a_4.fst.getD ((0 : Nat) + x.fst.toNat) (0 : Int)))
  (0 : Int) ≤ (0 : Int)) → Br a_8 (HIs [HObj.box Md.rw ty39 [SV.data (K.flt Go.FloatKind.f64).slice s.fst, SV.data (K.int IntKind.i64).slice s.snd.fst, SV.data (K.int
  IntKind.i64).slice s.snd.snd.fst, SV.data (K.flt Go.FloatKind.f64).slice s.snd.snd.snd.fst, SV.val (Go.Value.int IntKind.i64 s.snd.snd.snd.snd.fst), SV.val (Go.Value.int
  IntKind.i64 s.snd.snd.snd.snd.snd)], HObj.row Md.rw ty2 (K.int IntKind.i64) y.fst, HObj.row Md.rw ty2 (K.int IntKind.i64) y.snd.fst, HObj.row Md.rw ty3 (K.int IntKind.i64)
  a_4.fst] [HObj.box Md.rw ty39 [SV.data (K.flt Go.FloatKind.f64).slice s.fst, SV.data (K.int IntKind.i64).slice s.snd.fst, SV.data (K.int IntKind.i64).slice s.snd.snd.fst, SV.data
  (K.flt Go.FloatKind.f64).slice s.snd.snd.snd.fst, SV.val (Go.Value.int IntKind.i64 s.snd.snd.snd.snd.fst), SV.val (Go.Value.int IntKind.i64 s.snd.snd.snd.snd.snd)], HObj.row Md.rw
  ty2 (K.int IntKind.i64) y.fst, HObj.row Md.rw ty2 (K.int IntKind.i64) y.snd.fst, HObj.row Md.rw ty3 (K.int IntKind.i64) a_4.fst] ∧ I (IntKind.i64.wrap (x.fst + (1 : Int)), ())
  (y.fst, y.snd.fst, ()) ∧ μ (IntKind.i64.wrap (x.fst + (1 : Int)), ()) (y.fst, y.snd.fst, ()) < μ x y) (∃ (h : (0 : Int) ≤ a_4.fst.getD ((0 : Nat) + x.fst.toNat) (0 : Int) ∧
  a_4.fst.getD ((0 : Nat) + x.fst.toNat) (0 : Int) < (↑a.fst.length : Int)), ∃ (h : True), ∃ (h : II (y.fst.getD ((0 : Nat) + Int.toNat (a_4.fst.getD ((0 : Nat) + x.fst.toNat) (0 :
  Int))) (0 : Int)) (nAreaR (Option.some g) (a_4.fst.getD ((0 : Nat) + x.fst.toNat) (0 : Int))).fst), ∀ (a_9 : Bool), a_9 = fcmp Go.BinOp.lss (Go.FloatKind.f64.format.order (depthR
  (y.fst.getD ((0 : Nat) + Int.toNat (a_4.fst.getD ((0 : Nat) + x.fst.toNat) (0 : Int))) (0 : Int)) (nAreaR (Option.some g) (a_4.fst.getD ((0 : Nat) + x.fst.toNat) (0 :
  Int))).fst).fst (4602678819172646912 : Nat)) → Br (!a_9) (HIs [HObj.box Md.rw ty39 [SV.data (K.flt Go.FloatKind.f64).slice s.fst, SV.data (K.int IntKind.i64).slice s.snd.fst,
  SV.data (K.int IntKind.i64).slice s.snd.snd.fst, SV.data (K.flt Go.FloatKind.f64).slice s.snd.snd.snd.fst, SV.val (Go.Value.int IntKind.i64 s.snd.snd.snd.snd.fst), SV.val
  (Go.Value.int IntKind.i64 s.snd.snd.snd.snd.snd)], HObj.row Md.rw ty2 (K.int IntKind.i64) y.fst, HObj.row Md.rw ty2 (K.int IntKind.i64) y.snd.fst, HObj.row Md.rw ty3 (K.int
  IntKind.i64) a_4.fst] [HObj.box Md.rw ty39 [SV.data (K.flt Go.FloatKind.f64).slice s.fst, SV.data (K.int IntKind.i64).slice s.snd.fst, SV.data (K.int IntKind.i64).slice
  s.snd.snd.fst, SV.data (K.flt Go.FloatKind.f64).slice s.snd.snd.snd.fst, SV.val (Go.Value.int IntKind.i64 s.snd.snd.snd.snd.fst), SV.val (Go.Value.int IntKind.i64
  s.snd.snd.snd.snd.snd)], HObj.row Md.rw ty2 (K.int IntKind.i64) y.fst, HObj.row Md.rw ty2 (K.int IntKind.i64) y.snd.fst, HObj.row Md.rw ty3 (K.int IntKind.i64) a_4.fst] ∧ I
  (IntKind.i64.wrap (x.fst + (1 : Int)), ()) (y.fst, y.snd.fst, ()) ∧ μ (IntKind.i64.wrap (x.fst + (1 : Int)), ()) (y.fst, y.snd.fst, ()) < μ x y) (∃ (h : (0 : Int) ≤ a_4.fst.getD
  ((0 : Nat) + x.fst.toNat) (0 : Int) ∧ a_4.fst.getD ((0 : Nat) + x.fst.toNat) (0 : Int) < (↑a.fst.length : Int)), ∃ (h : (4 : Int) ≠ (0 : Int)), ∃ (h : (0 : Int) ≤ a_4.fst.getD ((0
  : Nat) + x.fst.toNat) (0 : Int) ∧ a_4.fst.getD ((0 : Nat) + x.fst.toNat) (0 : Int) < (↑a_3.fst.length : Int)), ∃ (h : (0 : Int) ≤ a_4.fst.getD ((0 : Nat) + x.fst.toNat) (0 : Int)
  ∧ a_4.fst.getD ((0 : Nat) + x.fst.toNat) (0 : Int) < (↑a.fst.length : Int)), ∃ (h : III (y.snd.fst.getD ((0 : Nat) + Int.toNat (a_4.fst.getD ((0 : Nat) + x.fst.toNat) (0 : Int)))
  (0 : Int)) (IntKind.i64.wrap (Int.tdiv (y.fst.getD ((0 : Nat) + Int.toNat (a_4.fst.getD ((0 : Nat) + x.fst.toNat) (0 : Int))) (0 : Int)) (4 : Int))) (y.fst.getD ((0 : Nat) +
  Int.toNat (a_4.fst.getD ((0 : Nat) + x.fst.toNat) (0 : Int))) (0 : Int))), ∃ (h : (0 : Int) ≤ a_4.fst.getD ((0 : Nat) + x.fst.toNat) (0 : Int) ∧ a_4.fst.getD ((0 : Nat) +
  x.fst.toNat) (0 : Int) < (↑a.fst.length : Int)), ∃ (h : (0 : Int) ≤ a_4.fst.getD ((0 : Nat) + x.fst.toNat) (0 : Int) ∧ a_4.fst.getD ((0 : Nat) + x.fst.toNat) (0 : Int) <
  (↑a.fst.length : Int)), ∃ (h : (0 : Int) ≤ a_6.fst ∧ a_6.fst < (↑a.fst.length : Int)), ∃ (h : (0 : Int) ≤ a_6.fst ∧ a_6.fst < (↑a.fst.length : Int)), ∃ (h : (0 : Int) ≤
  a_4.fst.getD ((0 : Nat) + x.fst.toNat) (0 : Int) ∧ a_4.fst.getD ((0 : Nat) + x.fst.toNat) (0 : Int) < (↑a_3.fst.length : Int)), ∃ (h : (0 : Int) ≤ a_4.fst.getD ((0 : Nat) +
  x.fst.toNat) (0 : Int) ∧ a_4.fst.getD ((0 : Nat) + x.fst.toNat) (0 : Int) < (↑a_3.fst.length : Int)), ∃ (h : (0 : Int) ≤ a_6.fst ∧ a_6.fst < (↑a_3.fst.length : Int)), ∃ (h : (0 :
  Int) ≤ a_6.fst ∧ a_6.fst < (↑a_3.fst.length : Int)), HIs [HObj.box Md.rw ty39 [SV.data (K.flt Go.FloatKind.f64).slice s.fst, SV.data (K.int IntKind.i64).slice s.snd.fst, SV.data
  (K.int IntKind.i64).slice s.snd.snd.fst, SV.data (K.flt Go.FloatKind.f64).slice s.snd.snd.snd.fst, SV.val (Go.Value.int IntKind.i64 s.snd.snd.snd.snd.fst), SV.val (Go.Value.int
  IntKind.i64 s.snd.snd.snd.snd.snd)], HObj.row Md.rw ty2 (K.int IntKind.i64) ((y.fst.set ((0 : Nat) + Int.toNat (a_4.fst.getD ((0 : Nat) + x.fst.toNat) (0 : Int)))
  (IntKind.i64.wrap (y.fst.getD ((0 : Nat) + Int.toNat (a_4.fst.getD ((0 : Nat) + x.fst.toNat) (0 : Int))) (0 : Int) - IntKind.i64.wrap (Int.tdiv (y.fst.getD ((0 : Nat) + Int.toNat
  (a_4.fst.getD ((0 : Nat) + x.fst.toNat) (0 : Int))) (0 : Int)) (4 : Int))))).set ((0 : Nat) + a_6.fst.toNat) (IntKind.i64.wrap ((y.fst.set ((0 : Nat) + Int.toNat (a_4.fst.getD ((0
  : Nat) + x.fst.toNat) (0 : Int))) (IntKind.i64.wrap (y.fst.getD ((0 : Nat) + Int.toNat (a_4.fst.getD ((0 : Nat) + x.fst.toNat) (0 : Int))) (0 : Int) - IntKind.i64.wrap (Int.tdiv
  (y.fst.getD ((0 : Nat) + Int.toNat (a_4.fst.getD ((0 : Nat) + x.fst.toNat) (0 : Int))) (0 : Int)) (4 : Int))))).getD ((0 : Nat) + a_6.fst.toNat) (0 : Int) + IntKind.i64.wrap
  (Int.tdiv (y.fst.getD ((0 : Nat) + Int.toNat (a_4.fst.getD ((0 : Nat) + x.fst.toNat) (0 : Int))) (0 : Int)) (4 : Int))))), HObj.row Md.rw ty2 (K.int IntKind.i64) ((y.snd.fst.set
  ((0 : Nat) + Int.toNat (a_4.fst.getD ((0 : Nat) + x.fst.toNat) (0 : Int))) (IntKind.i64.wrap (y.snd.fst.getD ((0 : Nat) + Int.toNat (a_4.fst.getD ((0 : Nat) + x.fst.toNat) (0 :
  Int))) (0 : Int) - (prtR (y.snd.fst.getD ((0 : Nat) + Int.toNat (a_4.fst.getD ((0 : Nat) + x.fst.toNat) (0 : Int))) (0 : Int)) (IntKind.i64.wrap (Int.tdiv (y.fst.getD ((0 : Nat) +
  Int.toNat (a_4.fst.getD ((0 : Nat) + x.fst.toNat) (0 : Int))) (0 : Int)) (4 : Int))) (y.fst.getD ((0 : Nat) + Int.toNat (a_4.fst.getD ((0 : Nat) + x.fst.toNat) (0 : Int))) (0 :
  Int))).fst))).set ((0 : Nat) + a_6.fst.toNat) (IntKind.i64.wrap ((y.snd.fst.set ((0 : Nat) + Int.toNat (a_4.fst.getD ((0 : Nat) + x.fst.toNat) (0 : Int))) (IntKind.i64.wrap
  (y.snd.fst.getD ((0 : Nat) + Int.toNat (a_4.fst.getD ((0 : Nat) + x.fst.toNat) (0 : Int))) (0 : Int) - (prtR (y.snd.fst.getD ((0 : Nat) + Int.toNat (a_4.fst.getD ((0 : Nat) +
  x.fst.toNat) (0 : Int))) (0 : Int)) (IntKind.i64.wrap (Int.tdiv (y.fst.getD ((0 : Nat) + Int.toNat (a_4.fst.getD ((0 : Nat) + x.fst.toNat) (0 : Int))) (0 : Int)) (4 : Int)))
  (y.fst.getD ((0 : Nat) + Int.toNat (a_4.fst.getD ((0 : Nat) + x.fst.toNat) (0 : Int))) (0 : Int))).fst))).getD ((0 : Nat) + a_6.fst.toNat) (0 : Int) + (prtR (y.snd.fst.getD ((0 :
  Nat) + Int.toNat (a_4.fst.getD ((0 : Nat) + x.fst.toNat) (0 : Int))) (0 : Int)) (IntKind.i64.wrap (Int.tdiv (y.fst.getD ((0 : Nat) + Int.toNat (a_4.fst.getD ((0 : Nat) +
  x.fst.toNat) (0 : Int))) (0 : Int)) (4 : Int))) (y.fst.getD ((0 : Nat) + Int.toNat (a_4.fst.getD ((0 : Nat) + x.fst.toNat) (0 : Int))) (0 : Int))).fst))), HObj.row Md.rw ty3
  (K.int IntKind.i64) a_4.fst] [HObj.box Md.rw ty39 [SV.data (K.flt Go.FloatKind.f64).slice s.fst, SV.data (K.int IntKind.i64).slice s.snd.fst, SV.data (K.int IntKind.i64).slice
  s.snd.snd.fst, SV.data (K.flt Go.FloatKind.f64).slice s.snd.snd.snd.fst, SV.val (Go.Value.int IntKind.i64 s.snd.snd.snd.snd.fst), SV.val (Go.Value.int IntKind.i64
  s.snd.snd.snd.snd.snd)], HObj.row Md.rw ty2 (K.int IntKind.i64) ((y.fst.set ((0 : Nat) + Int.toNat (a_4.fst.getD ((0 : Nat) + x.fst.toNat) (0 : Int))) (IntKind.i64.wrap
  (y.fst.getD ((0 : Nat) + Int.toNat (a_4.fst.getD ((0 : Nat) + x.fst.toNat) (0 : Int))) (0 : Int) - IntKind.i64.wrap (Int.tdiv (y.fst.getD ((0 : Nat) + Int.toNat (a_4.fst.getD ((0
  : Nat) + x.fst.toNat) (0 : Int))) (0 : Int)) (4 : Int))))).set ((0 : Nat) + a_6.fst.toNat) (IntKind.i64.wrap ((y.fst.set ((0 : Nat) + Int.toNat (a_4.fst.getD ((0 : Nat) +
  x.fst.toNat) (0 : Int))) (IntKind.i64.wrap (y.fst.getD ((0 : Nat) + Int.toNat (a_4.fst.getD ((0 : Nat) + x.fst.toNat) (0 : Int))) (0 : Int) - IntKind.i64.wrap (Int.tdiv
  (y.fst.getD ((0 : Nat) + Int.toNat (a_4.fst.getD ((0 : Nat) + x.fst.toNat) (0 : Int))) (0 : Int)) (4 : Int))))).getD ((0 : Nat) + a_6.fst.toNat) (0 : Int) + IntKind.i64.wrap
  (Int.tdiv (y.fst.getD ((0 : Nat) + Int.toNat (a_4.fst.getD ((0 : Nat) + x.fst.toNat) (0 : Int))) (0 : Int)) (4 : Int))))), HObj.row Md.rw ty2 (K.int IntKind.i64) ((y.snd.fst.set
  ((0 : Nat) + Int.toNat (a_4.fst.getD ((0 : Nat) + x.fst.toNat) (0 : Int))) (IntKind.i64.wrap (y.snd.fst.getD ((0 : Nat) + Int.toNat (a_4.fst.getD ((0 : Nat) + x.fst.toNat) (0 :
  Int))) (0 : Int) - (prtR (y.snd.fst.getD ((0 : Nat) + Int.toNat (a_4.fst.getD ((0 : Nat) + x.fst.toNat) (0 : Int))) (0 : Int)) (IntKind.i64.wrap (Int.tdiv (y.fst.getD ((0 : Nat) +
  Int.toNat (a_4.fst.getD ((0 : Nat) + x.fst.toNat) (0 : Int))) (0 : Int)) (4 : Int))) (y.fst.getD ((0 : Nat) + Int.toNat (a_4.fst.getD ((0 : Nat) + x.fst.toNat) (0 : Int))) (0 :
  Int))).fst))).set ((0 : Nat) + a_6.fst.toNat) (IntKind.i64.wrap ((y.snd.fst.set ((0 : Nat) + Int.toNat (a_4.fst.getD ((0 : Nat) + x.fst.toNat) (0 : Int))) (IntKind.i64.wrap
  (y.snd.fst.getD ((0 : Nat) + Int.toNat (a_4.fst.getD ((0 : Nat) + x.fst.toNat) (0 : Int))) (0 : Int) - (prtR (y.snd.fst.getD ((0 : Nat) + Int.toNat (a_4.fst.getD ((0 : Nat) +
  x.fst.toNat) (0 : Int))) (0 : Int)) (IntKind.i64.wrap (Int.tdiv (y.fst.getD ((0 : Nat) + Int.toNat (a_4.fst.getD ((0 : Nat) + x.fst.toNat) (0 : Int))) (0 : Int)) (4 : Int)))
  (y.fst.getD ((0 : Nat) + Int.toNat (a_4.fst.getD ((0 : Nat) + x.fst.toNat) (0 : Int))) (0 : Int))).fst))).getD ((0 : Nat) + a_6.fst.toNat) (0 : Int) + (prtR (y.snd.fst.getD ((0 :
  Nat) + Int.toNat (a_4.fst.getD ((0 : Nat) + x.fst.toNat) (0 : Int))) (0 : Int)) (IntKind.i64.wrap (Int.tdiv (y.fst.getD ((0 : Nat) + Int.toNat (a_4.fst.getD ((0 : Nat) +
  x.fst.toNat) (0 : Int))) (0 : Int)) (4 : Int))) (y.fst.getD ((0 : Nat) + Int.toNat (a_4.fst.getD ((0 : Nat) + x.fst.toNat) (0 : Int))) (0 : Int))).fst))), HObj.row Md.rw ty3
  (K.int IntKind.i64) a_4.fst] ∧ I (IntKind.i64.wrap (x.fst + (1 : Int)), ()) ((y.fst.set ((0 : Nat) + Int.toNat (a_4.fst.getD ((0 : Nat) + x.fst.toNat) (0 : Int)))
  (IntKind.i64.wrap (y.fst.getD ((0 : Nat) + Int.toNat (a_4.fst.getD ((0 : Nat) + x.fst.toNat) (0 : Int))) (0 : Int) - IntKind.i64.wrap (Int.tdiv (y.fst.getD ((0 : Nat) + Int.toNat
  (a_4.fst.getD ((0 : Nat) + x.fst.toNat) (0 : Int))) (0 : Int)) (4 : Int))))).set ((0 : Nat) + a_6.fst.toNat) (IntKind.i64.wrap ((y.fst.set ((0 : Nat) + Int.toNat (a_4.fst.getD ((0
  : Nat) + x.fst.toNat) (0 : Int))) (IntKind.i64.wrap (y.fst.getD ((0 : Nat) + Int.toNat (a_4.fst.getD ((0 : Nat) + x.fst.toNat) (0 : Int))) (0 : Int) - IntKind.i64.wrap (Int.tdiv
  (y.fst.getD ((0 : Nat) + Int.toNat (a_4.fst.getD ((0 : Nat) + x.fst.toNat) (0 : Int))) (0 : Int)) (4 : Int))))).getD ((0 : Nat) + a_6.fst.toNat) (0 : Int) + IntKind.i64.wrap
  (Int.tdiv (y.fst.getD ((0 : Nat) + Int.toNat (a_4.fst.getD ((0 : Nat) + x.fst.toNat) (0 : Int))) (0 : Int)) (4 : Int)))), (y.snd.fst.set ((0 : Nat) + Int.toNat (a_4.fst.getD ((0 :
  Nat) + x.fst.toNat) (0 : Int))) (IntKind.i64.wrap (y.snd.fst.getD ((0 : Nat) + Int.toNat (a_4.fst.getD ((0 : Nat) + x.fst.toNat) (0 : Int))) (0 : Int) - (prtR (y.snd.fst.getD ((0
  : Nat) + Int.toNat (a_4.fst.getD ((0 : Nat) + x.fst.toNat) (0 : Int))) (0 : Int)) (IntKind.i64.wrap (Int.tdiv (y.fst.getD ((0 : Nat) + Int.toNat (a_4.fst.getD ((0 : Nat) +
  x.fst.toNat) (0 : Int))) (0 : Int)) (4 : Int))) (y.fst.getD ((0 : Nat) + Int.toNat (a_4.fst.getD ((0 : Nat) + x.fst.toNat) (0 : Int))) (0 : Int))).fst))).set ((0 : Nat) +
  a_6.fst.toNat) (IntKind.i64.wrap ((y.snd.fst.set ((0 : Nat) + Int.toNat (a_4.fst.getD ((0 : Nat) + x.fst.toNat) (0 : Int))) (IntKind.i64.wrap (y.snd.fst.getD ((0 : Nat) +
  Int.toNat (a_4.fst.getD ((0 : Nat) + x.fst.toNat) (0 : Int))) (0 : Int) - (prtR (y.snd.fst.getD ((0 : Nat) + Int.toNat (a_4.fst.getD ((0 : Nat) + x.fst.toNat) (0 : Int))) (0 :
  Int)) (IntKind.i64.wrap (Int.tdiv (y.fst.getD ((0 : Nat) + Int.toNat (a_4.fst.getD ((0 : Nat) + x.fst.toNat) (0 : Int))) (0 : Int)) (4 : Int))) (y.fst.getD ((0 : Nat) + Int.toNat
  (a_4.fst.getD ((0 : Nat) + x.fst.toNat) (0 : Int))) (0 : Int))).fst))).getD ((0 : Nat) + a_6.fst.toNat) (0 : Int) + (prtR (y.snd.fst.getD ((0 : Nat) + Int.toNat (a_4.fst.getD ((0
  : Nat) + x.fst.toNat) (0 : Int))) (0 : Int)) (IntKind.i64.wrap (Int.tdiv (y.fst.getD ((0 : Nat) + Int.toNat (a_4.fst.getD ((0 : Nat) + x.fst.toNat) (0 : Int))) (0 : Int)) (4 :
  Int))) (y.fst.getD ((0 : Nat) + Int.toNat (a_4.fst.getD ((0 : Nat) + x.fst.toNat) (0 : Int))) (0 : Int))).fst)), ()) ∧ μ (IntKind.i64.wrap (x.fst + (1 : Int)), ()) ((y.fst.set ((0
  : Nat) + Int.toNat (a_4.fst.getD ((0 : Nat) + x.fst.toNat) (0 : Int))) (IntKind.i64.wrap (y.fst.getD ((0 : Nat) + Int.toNat (a_4.fst.getD ((0 : Nat) + x.fst.toNat) (0 : Int))) (0
  : Int) - IntKind.i64.wrap (Int.tdiv (y.fst.getD ((0 : Nat) + Int.toNat (a_4.fst.getD ((0 : Nat) + x.fst.toNat) (0 : Int))) (0 : Int)) (4 : Int))))).set ((0 : Nat) + a_6.fst.toNat)
  (IntKind.i64.wrap ((y.fst.set ((0 : Nat) + Int.toNat (a_4.fst.getD ((0 : Nat) + x.fst.toNat) (0 : Int))) (IntKind.i64.wrap (y.fst.getD ((0 : Nat) + Int.toNat (a_4.fst.getD ((0 :
  Nat) + x.fst.toNat) (0 : Int))) (0 : Int) - IntKind.i64.wrap (Int.tdiv (y.fst.getD ((0 : Nat) + Int.toNat (a_4.fst.getD ((0 : Nat) + x.fst.toNat) (0 : Int))) (0 : Int)) (4 :
  Int))))).getD ((0 : Nat) + a_6.fst.toNat) (0 : Int) + IntKind.i64.wrap (Int.tdiv (y.fst.getD ((0 : Nat) + Int.toNat (a_4.fst.getD ((0 : Nat) + x.fst.toNat) (0 : Int))) (0 : Int))
  (4 : Int)))), (y.snd.fst.set ((0 : Nat) + Int.toNat (a_4.fst.getD ((0 : Nat) + x.fst.toNat) (0 : Int))) (IntKind.i64.wrap (y.snd.fst.getD ((0 : Nat) + Int.toNat (a_4.fst.getD ((0
  : Nat) + x.fst.toNat) (0 : Int))) (0 : Int) - (prtR (y.snd.fst.getD ((0 : Nat) + Int.toNat (a_4.fst.getD ((0 : Nat) + x.fst.toNat) (0 : Int))) (0 : Int)) (IntKind.i64.wrap
  (Int.tdiv (y.fst.getD ((0 : Nat) + Int.toNat (a_4.fst.getD ((0 : Nat) + x.fst.toNat) (0 : Int))) (0 : Int)) (4 : Int))) (y.fst.getD ((0 : Nat) + Int.toNat (a_4.fst.getD ((0 : Nat)
  + x.fst.toNat) (0 : Int))) (0 : Int))).fst))).set ((0 : Nat) + a_6.fst.toNat) (IntKind.i64.wrap ((y.snd.fst.set ((0 : Nat) + Int.toNat (a_4.fst.getD ((0 : Nat) + x.fst.toNat) (0 :
  Int))) (IntKind.i64.wrap (y.snd.fst.getD ((0 : Nat) + Int.toNat (a_4.fst.getD ((0 : Nat) + x.fst.toNat) (0 : Int))) (0 : Int) - (prtR (y.snd.fst.getD ((0 : Nat) + Int.toNat
  (a_4.fst.getD ((0 : Nat) + x.fst.toNat) (0 : Int))) (0 : Int)) (IntKind.i64.wrap (Int.tdiv (y.fst.getD ((0 : Nat) + Int.toNat (a_4.fst.getD ((0 : Nat) + x.fst.toNat) (0 : Int)))
  (0 : Int)) (4 : Int))) (y.fst.getD ((0 : Nat) + Int.toNat (a_4.fst.getD ((0 : Nat) + x.fst.toNat) (0 : Int))) (0 : Int))).fst))).getD ((0 : Nat) + a_6.fst.toNat) (0 : Int) + (prtR
  (y.snd.fst.getD ((0 : Nat) + Int.toNat (a_4.fst.getD ((0 : Nat) + x.fst.toNat) (0 : Int))) (0 : Int)) (IntKind.i64.wrap (Int.tdiv (y.fst.getD ((0 : Nat) + Int.toNat (a_4.fst.getD
  ((0 : Nat) + x.fst.toNat) (0 : Int))) (0 : Int)) (4 : Int))) (y.fst.getD ((0 : Nat) + Int.toNat (a_4.fst.getD ((0 : Nat) + x.fst.toNat) (0 : Int))) (0 : Int))).fst)), ()) < μ x
  y)))) (((0 : Nat) = (0 : Nat) ∧ a.fst.length = y.fst.length) ∧ ((0 : Nat) = (0 : Nat) ∧ a_3.fst.length = y.snd.fst.length) ∧ post (y.fst, y.snd.fst, (0 : Int), ()))))))))
theorem Lx_river_Run_1 (ty0 ty1 ty2 : Nat) (g : Int × (List (Int × Int × Int × Int)) × (List ((Int × Int) × Int)) × (List (List Int)) × (List Int) × (List Nat) × List Nat) (s : (List Nat) × (List Int) × (List Int) × (List Nat) × Int × Int) (h : WRun (some g) s) (w : KS.wf [.ptr kGrid, kSea] ((some g), s, ())) : Fx_river_Run_1 ty0 ty1 ty2 g s (fun r => r = runFR (some g) s) := by
  obtain ⟨hg, hw, hi1, hi2⟩ := h
  obtain ⟨n, gn, rfl⟩ := netP_some hg
  obtain ⟨m, hm⟩ : ∃ m, (nEdgesR (some (netG n))).1 = m := ⟨_, rfl⟩
  have hC : (nCellsR (some (netG n))).1 = cellsI n := nCells_net n
  have hR : runFR (some (netG n)) s = runF true (cellsI n) m (areaI n) (downF true (cellsI n) n s.1) s := by rw [← hm]; unfold runFR; rw [nCells_net]; rfl
  have cr := cells_rng n
  have hD : ∀ c, (rvDownR (some (netG n)) s.1 c).fst = downF true (cellsI n) n s.1 c := fun c => by unfold rvDownR; rw [nCells_net]; rfl
  have bad : ((fitsS (cellsI n) m s && keptF 0 s.2.1) && keptF 0 s.2.2.1) = false → ([], [], 1, ()) = runFR (some (netG n)) s := fun h => by rw [hR, runF_bad h]
  have main : fitsS (cellsI n) m s = true → keptF 0 s.2.1 = true → keptF 0 s.2.2.1 = true → ∀ area down, area = areaI n → down = downF true (cellsI n) n s.1 → runFR (some (netG n)) s = ((runA area down (ordL s.1) (s.2.1, s.2.2.1)).1, (runA area down (ordL s.1) (s.2.1, s.2.2.1)).2, 0, ()) := by
    rintro h1 h2 h3 _ _ rfl rfl
    rw [hR, runF_good h1 h2 h3]
  refine ⟨trivial, ?_⟩
  rw [hC, hm]
  have bad1 : ∀ {b : Bool}, fitsS (cellsI n) m s = b → b = false → ([], [], 1, ()) = runFR (some (netG n)) s := fun {b} h1 h2 => bad (by rw [h1, h2]; rfl)
  have nofit : ¬ ((s.1.length : Int) = cellsI n ∧ (s.2.1.length : Int) = cellsI n ∧ (s.2.2.1.length : Int) = cellsI n ∧ (s.2.2.2.1.length : Int) = m) → ([], [], 1, ()) = runFR (some (netG n)) s := fun h => bad1 rfl (by rw [Bool.eq_false_iff]; exact fun q => h (fitsS_iff.1 q))
  rintro _ rfl
  refine Br.intro (fun e => nofit fun q => absurd q.1 (bne_iff_ne.1 e)) fun f1 => ?_
  have f1 : (s.1.length : Int) = cellsI n := by simpa using f1
  rintro _ rfl
  refine Br.intro (fun e => nofit fun q => absurd q.2.1 (bne_iff_ne.1 e)) fun f2 => ?_
  have f2 : (s.2.1.length : Int) = cellsI n := by simpa using f2
  rintro _ rfl
  refine Br.intro (fun e => nofit fun q => absurd q.2.2.1 (bne_iff_ne.1 e)) fun f3 => ?_
  have f3 : (s.2.2.1.length : Int) = cellsI n := by simpa using f3
  refine ⟨trivial, ?_⟩
  rintro _ rfl
  refine Br.intro (fun e => nofit fun q => absurd q.2.2.2 (bne_iff_ne.1 e)) fun f4 => ?_
  have f4 : (s.2.2.2.1.length : Int) = m := by simpa using f4
  have hf : fitsS (cellsI n) m s = true := fitsS_iff.2 ⟨f1, f2, f3, f4⟩
  refine ⟨trivial, ?_⟩
  rintro _ rfl
  rintro _ rfl
  refine Br.intro (fun e => bad (by
    have e : (!keptF 0 s.2.1) = true := e
    have e : keptF 0 s.2.1 = false := by simpa using e
    rw [hf, e]; rfl)) fun e => ?_
  have hk1 : keptF 0 s.2.1 = true := by
    have e : (!keptF 0 s.2.1) = false := e
    simpa using e
  refine ⟨trivial, ?_⟩
  rintro _ rfl
  rintro _ rfl
  refine Br.intro (fun e => bad (by
    have e : (!keptF 0 s.2.2.1) = true := e
    have e : keptF 0 s.2.2.1 = false := by simpa using e
    rw [hf, hk1, e]; rfl)) fun e => ?_
  have hk2 : keptF 0 s.2.2.1 = true := by
    have e : (!keptF 0 s.2.2.1) = false := e
    simpa using e
  clear bad1 nofit
  have e1 := fitsS_iff.1 hf
  have q1 := kept_facts hk1 (by decide)
  have q2 := kept_facts hk2 (by decide)
  have p1 : Pool s.1.length s.2.1.sum s.2.1 := ⟨by omega, q1.1, rfl⟩
  have p2 : Pool s.1.length s.2.2.1.sum s.2.2.1 := ⟨by omega, q2.1, rfl⟩
  refine ⟨by show s.2.1.length ≤ 65536; omega, ?_⟩
  rintro _ rfl
  refine ⟨by show s.2.2.1.length ≤ 65536; omega, ?_⟩
  rintro _ rfl
  refine ⟨⟨hw, by omega⟩, ?_⟩
  rintro _ rfl
  have hm2 := main hf hk1 hk2 _ _ rfl rfl
  rw [hm2]
  clear hm2 main bad hR
  dsimp only [ordLR, sameLR]
  have lo : (ordL s.1).length = s.1.length := by unfold ordL; rw [ordSeg_len]; simp
  have mo : ∀ c ∈ ordL s.1, 0 ≤ c ∧ c < (s.1.length : Int) := fun c hc => by have := ordSeg_mem hc; simp at this; omega
  have hdr := downF_rng (n := n) (bed := s.1) e1.1
  simp only [hD]
  obtain ⟨down, hdn⟩ : ∃ down, downF true (cellsI n) n s.1 = down := ⟨_, rfl⟩
  rw [hdn] at hdr ⊢
  have pk : ∀ k : Nat, Pool s.1.length s.2.1.sum (runA (areaI n) down ((ordL s.1).take k) (s.2.1, s.2.2.1)).1 ∧ Pool s.1.length s.2.2.1.sum (runA (areaI n) down ((ordL s.1).take k) (s.2.1, s.2.2.1)).2 := fun k => runA_ok hdr _ (fun c hc => mo c (List.mem_of_mem_take hc)) p1 p2
  refine ⟨rfl, fun x y => ∃ k : Nat, x.1 = k ∧ k ≤ (ordL s.1).length ∧ y.1 = (runA (areaI n) down ((ordL s.1).take k) (s.2.1, s.2.2.1)).1 ∧ y.2.1 = (runA (areaI n) down ((ordL s.1).take k) (s.2.1, s.2.2.1)).2, fun x _ => (ordL s.1).length - x.1.toNat, ⟨0, rfl, by omega, rfl, rfl⟩, ?_⟩
  rintro ⟨_, ⟨⟩⟩ ⟨_, _, ⟨⟩⟩ ⟨k, rfl, hk, rfl, rfl⟩
  dsimp only
  obtain ⟨st, hst⟩ : ∃ st, runA (areaI n) down ((ordL s.1).take k) (s.2.1, s.2.2.1) = st := ⟨_, rfl⟩
  have pst := pk k
  rw [hst] at pst ⊢
  obtain ⟨pw, pt⟩ := pst
  have lw := pw.len
  have lt := pt.len
  rintro _ rfl
  refine Br.intro (fun d => ?_) fun d => ?_
  rotate_left
  · have d : k = (ordL s.1).length := by have d : ¬ (k : Int) < (ordL s.1).length := of_decide_eq_false d; omega
    rw [d, List.take_length] at hst
    rw [hst]
    exact ⟨⟨by trivial, by omega⟩, ⟨by trivial, by omega⟩, rfl⟩
  have d : k < (ordL s.1).length := by have d : (k : Int) < (ordL s.1).length := of_decide_eq_true d; omega
  have hs1 := runA_take (area := areaI n) (down := down) (st := (s.2.1, s.2.2.1)) d
  rw [hst] at hs1
  have hcm := mo _ (at0_mem d)
  simp only [Int.toNat_natCast, Nat.zero_add]
  rw [wi_succ d (by omega)]
  obtain ⟨c, hc⟩ : ∃ c, (ordL s.1).getD k 0 = c := ⟨_, rfl⟩
  have hc' : at0 (ordL s.1) k = c := hc
  rw [hc'] at hs1 hcm
  simp only [hc]
  have hdc := hdr c hcm.1 hcm.2
  have cw : 0 ≤ c ∧ c < (s.2.1.length : Int) := by omega
  have ct : 0 ≤ c ∧ c < (s.2.2.1.length : Int) := by omega
  have aw := pw.at (i := c.toNat) (by omega)
  have at_ := pt.at (i := c.toNat) (by omega)
  have aw : 0 ≤ st.1.getD c.toNat 0 ∧ st.1.getD c.toNat 0 ≤ s.2.1.sum := aw
  have at_ : 0 ≤ st.2.getD c.toNat 0 ∧ st.2.getD c.toNat 0 ≤ s.2.2.1.sum := at_
  have next : ∀ w t : List Int, (w, t) = runStep (areaI n) down st c → (∃ j : Nat, ((k + 1 : Nat) : Int) = j ∧ j ≤ (ordL s.1).length ∧ w = (runA (areaI n) down ((ordL s.1).take j) (s.2.1, s.2.2.1)).1 ∧ t = (runA (areaI n) down ((ordL s.1).take j) (s.2.1, s.2.2.1)).2) ∧ (ordL s.1).length - (((k + 1 : Nat) : Int)).toNat < (ordL s.1).length - k := fun w t h => ⟨⟨k + 1, rfl, by omega, by rw [hs1, ← h], by rw [hs1, ← h]⟩, by omega⟩
  have skip : (down c < 0 ∨ st.1.getD c.toNat 0 ≤ 0 ∨ shallowB (st.1.getD c.toNat 0) (areaI n c) = false) → (st.1, st.2) = runStep (areaI n) down st c := fun h => by unfold runStep; rw [if_pos h]
  refine ⟨⟨by omega, by omega⟩, ⟨hg, hw⟩, ?_⟩
  rintro _ rfl
  simp only [hD, hdn]
  rintro _ rfl
  refine Br.intro (fun e => ⟨rfl, next _ _ (skip (.inl (of_decide_eq_true e)))⟩) fun e => ?_
  have e := of_decide_eq_false e
  refine ⟨cw, ?_⟩
  rintro _ rfl
  refine Br.intro (fun f => ⟨rfl, next _ _ (skip (.inr (.inl (of_decide_eq_true f))))⟩) fun f => ?_
  have f := of_decide_eq_false f
  have ar := area_rng n c
  have hA : (nAreaR (some (netG n)) c).fst = areaI n c := nArea_net hcm.1 (by omega)
  rw [hA]
  refine ⟨cw, trivial, ⟨⟨by omega, by omega⟩, ar.1⟩, ?_⟩
  rintro _ rfl
  refine Br.intro (fun g => ⟨rfl, next _ _ (skip (.inr (.inr (by
    have g : (!shallowB (st.1.getD c.toNat 0) (areaI n c)) = true := g
    simpa using g))))⟩) fun g => ?_
  have g : shallowB (st.1.getD c.toNat 0) (areaI n c) = true := by
    have g : (!shallowB (st.1.getD c.toNat 0) (areaI n c)) = false := g
    simpa using g
  have w4 : IntKind.i64.wrap (Int.tdiv (st.1.getD c.toNat 0) 4) = st.1.getD c.toNat 0 / 4 := by
    rw [Int.tdiv_eq_ediv_of_nonneg aw.1]; exact wi_small (by omega) (by omega)
  have pr : ∀ a b c : Int, (prtR a b c).fst = part a b c := fun _ _ _ => rfl
  simp only [w4, pr]
  have pin := part_in (a := st.2.getD c.toNat 0) (b := st.1.getD c.toNat 0 / 4) (c := st.1.getD c.toNat 0) at_.1 (by omega) (by omega) (by omega)
  obtain ⟨_, m1, m2, m3, m4⟩ := pw.mv (i := c) (j := down c) (d := st.1.getD c.toNat 0 / 4) hcm.1 hcm.2 (by omega) (by omega) (by omega) (by omega)
  obtain ⟨_, m5, m6, m7, m8⟩ := pt.mv (i := c) (j := down c) hcm.1 hcm.2 (by omega) (by omega) pin.1 pin.2
  have dw : 0 ≤ down c ∧ down c < (s.2.1.length : Int) := by omega
  have dt : 0 ≤ down c ∧ down c < (s.2.2.1.length : Int) := by omega
  rw [wi_small (x := st.1.getD c.toNat 0 - st.1.getD c.toNat 0 / 4) (by omega) (by omega), wi_small (x := st.2.getD c.toNat 0 - part (st.2.getD c.toNat 0) (st.1.getD c.toNat 0 / 4) (st.1.getD c.toNat 0)) (by omega) (by omega),
    wi_small (x := (st.1.set c.toNat (st.1.getD c.toNat 0 - st.1.getD c.toNat 0 / 4)).getD (down c).toNat 0 + st.1.getD c.toNat 0 / 4) (by omega) (by omega),
    wi_small (x := (st.2.set c.toNat (st.2.getD c.toNat 0 - part (st.2.getD c.toNat 0) (st.1.getD c.toNat 0 / 4) (st.1.getD c.toNat 0))).getD (down c).toNat 0 + part (st.2.getD c.toNat 0) (st.1.getD c.toNat 0 / 4) (st.1.getD c.toNat 0)) (by omega) (by omega)]
  refine ⟨cw, by decide, ct, cw, ⟨⟨by omega, by omega⟩, ⟨by omega, by omega⟩, by omega, by omega⟩, cw, cw, dw, dw, ct, ct, dt, dt, rfl, next _ _ ?_⟩
  unfold runStep
  rw [if_neg (fun h => by rcases h with h | h | h <;> first | omega | (rw [g] at h; cases h))]
  rfl
end Go.Lift

set_option linter.unusedVariables false
set_option linter.unusedSimpArgs false
namespace Go.Lift
def Fx_grid_Grid_Cells_0 := fun (post : Int × Unit → Prop) => post ((0 : Int), ())
theorem Lx_grid_Grid_Cells_0  (w : KS.wf [.ptr kGrid] (none, ())) : Fx_grid_Grid_Cells_0   (fun r => r = nCellsR none) := by
  exact rfl
def Fx_grid_Grid_Cells_1 := fun (g : Int × List (Int × Int × Int × Int) × List ((Int × Int) × Int) × List (List Int) × List Int × List Nat × List Nat) (post : Int × Unit → Prop) =>
  ∃ (h : Option.some g ≠ Option.none), post ((↑g.snd.snd.snd.snd.fst.length : Int), ())
theorem Lx_grid_Grid_Cells_1 (g : Int × (List (Int × Int × Int × Int)) × (List ((Int × Int) × Int)) × (List (List Int)) × (List Int) × (List Nat) × List Nat) (w : KS.wf [.ptr kGrid] ((some g), ())) : Fx_grid_Grid_Cells_1  g (fun r => r = nCellsR (some g)) := by
  exact ⟨by simp, rfl⟩
def Fx_grid_Grid_Edges_0 := fun (post : Int × Unit → Prop) => post ((0 : Int), ())
theorem Lx_grid_Grid_Edges_0  (w : KS.wf [.ptr kGrid] (none, ())) : Fx_grid_Grid_Edges_0   (fun r => r = nEdgesR none) := by
  exact rfl
def Fx_grid_Grid_Edges_1 := fun (g : Int × List (Int × Int × Int × Int) × List ((Int × Int) × Int) × List (List Int) × List Int × List Nat × List Nat) (post : Int × Unit → Prop) =>
  ∃ (h : Option.some g ≠ Option.none), post ((↑g.snd.fst.length : Int), ())
theorem Lx_grid_Grid_Edges_1 (g : Int × (List (Int × Int × Int × Int)) × (List ((Int × Int) × Int)) × (List (List Int)) × (List Int) × (List Nat) × List Nat) (w : KS.wf [.ptr kGrid] ((some g), ())) : Fx_grid_Grid_Edges_1  g (fun r => r = nEdgesR (some g)) := by
  exact ⟨by simp, rfl⟩
def Fx_grid_Grid_Area_0 := fun (c : Int) (post : Int × Unit → Prop) => post ((0 : Int), ())
theorem Lx_grid_Grid_Area_0 (c : Int) (w : KS.wf [.ptr kGrid, .int .i64] (none, c, ())) : Fx_grid_Grid_Area_0  c (fun r => r = nAreaR none c) := by
  exact rfl
def Fx_grid_Grid_Area_1 := fun (g : Int × List (Int × Int × Int × Int) × List ((Int × Int) × Int) × List (List Int) × List Int × List Nat × List Nat) (c : Int) (post : Int × Unit →
  Prop) => ∀ (a : Bool), a = decide (c < (0 : Int)) → Br a (post ((0 : Int), ())) (∃ (h : Option.some g ≠ Option.none), ∀ (a : Bool), a = decide (c ≥ (↑g.snd.snd.snd.snd.fst.length
  : Int)) → Br a (post ((0 : Int), ())) (∃ (h : Option.some g ≠ Option.none), ∃ (h : (0 : Int) ≤ c ∧ c < (↑g.snd.snd.snd.snd.fst.length : Int)), post (g.snd.snd.snd.snd.fst.getD
  c.toNat (0 : Int), ())))
theorem Lx_grid_Grid_Area_1 (g : Int × (List (Int × Int × Int × Int)) × (List ((Int × Int) × Int)) × (List (List Int)) × (List Int) × (List Nat) × List Nat) (c : Int) (w : KS.wf [.ptr kGrid, .int .i64] ((some g), c, ())) : Fx_grid_Grid_Area_1  g c (fun r => r = nAreaR (some g) c) := by
  rintro _ rfl
  refine Br.intro (fun e => congrArg r1 ?_) fun e => ?_
  · have e := of_decide_eq_true e
    show (0 : Int) = if 0 ≤ c ∧ c < (g.2.2.2.2.1.length : Nat) then g.2.2.2.2.1.getD c.toNat 0 else 0
    rw [if_neg (by omega)]
  have e := of_decide_eq_false e
  refine ⟨by simp, ?_⟩
  rintro _ rfl
  refine Br.intro (fun f => congrArg r1 ?_) fun f => ?_
  · have f := of_decide_eq_true f
    show (0 : Int) = if 0 ≤ c ∧ c < (g.2.2.2.2.1.length : Nat) then g.2.2.2.2.1.getD c.toNat 0 else 0
    rw [if_neg (by omega)]
  have f := of_decide_eq_false f
  refine ⟨by simp, ⟨by omega, by omega⟩, congrArg r1 ?_⟩
  show g.2.2.2.2.1.getD c.toNat 0 = if 0 ≤ c ∧ c < (g.2.2.2.2.1.length : Nat) then g.2.2.2.2.1.getD c.toNat 0 else 0
  rw [if_pos ⟨by omega, by omega⟩]
end Go.Lift

set_option linter.unusedVariables false
set_option linter.unusedSimpArgs false
namespace Go.Lift
open Go.Proofs
def Rbq_grid_Grid_Cells : Con := .det [.ptr kGrid] [.snap (.int .i64)] (fun _ => True) (fun x => nCellsR x.1)
def Rbx_grid_Grid_Cells : Cx := ⟨tabOf Rbtab, conOf [], RbG⟩
theorem Rbx_grid_Grid_Cells_ok : CxOk Tryz.prog Rbx_grid_Grid_Cells := ⟨tabB_sound Rbtab_ok, fun f c h => by cases h⟩
theorem Rbat_grid_Grid_Cells : FnAt Tryz.prog 31 Tryz.f31.ntmps Tryz.f31.results.toList (Tryz.f31.body.getD .skip) := ⟨Tryz.f31, Tryz.func31, rfl, rfl, by simp, by decide⟩
theorem Rbeq_grid_Grid_Cells_0  (post : Int × Unit → Prop) : fnEval Rbx_grid_Grid_Cells nHn Tryz.f31.ntmps Tryz.f31.results.toList (Tryz.f31.body.getD .skip) [.ptr kGrid] [.snap (.int .i64)] (none, ()) post = Fx_grid_Grid_Cells_0   post := by kernel_rfl
theorem Rbeq_grid_Grid_Cells_1 (g : Int × (List (Int × Int × Int × Int)) × (List ((Int × Int) × Int)) × (List (List Int)) × (List Int) × (List Nat) × List Nat) (post : Int × Unit → Prop) : fnEval Rbx_grid_Grid_Cells nHn Tryz.f31.ntmps Tryz.f31.results.toList (Tryz.f31.body.getD .skip) [.ptr kGrid] [.snap (.int .i64)] ((some g), ()) post = Fx_grid_Grid_Cells_1  g post := by kernel_rfl
def RbF_grid_Grid_Cells (x : KS [.ptr kGrid]) (post : RS [.snap (.int .i64)] → Prop) : Prop := match x with
  | (none, y) => Fx_grid_Grid_Cells_0   post
  | (some g, y) => Fx_grid_Grid_Cells_1  g post
theorem Rbh_grid_Grid_Cells : Rbq_grid_Grid_Cells.holds Tryz.prog RbG 31 :=
  detP Rbx_grid_Grid_Cells_ok Rbmixed nHn Rbat_grid_Grid_Cells (F := RbF_grid_Grid_Cells) (fun x post => match x with
    | (none, y) => Rbeq_grid_Grid_Cells_0  post
    | (some g, y) => Rbeq_grid_Grid_Cells_1 g post) fun x h w => match x, h, w with
    | (none, y), h, w => Lx_grid_Grid_Cells_0   w
    | (some g, y), h, w => Lx_grid_Grid_Cells_1  g w
def Rbq_grid_Grid_Edges : Con := .det [.ptr kGrid] [.snap (.int .i64)] (fun _ => True) (fun x => nEdgesR x.1)
def Rbx_grid_Grid_Edges : Cx := ⟨tabOf Rbtab, conOf [], RbG⟩
theorem Rbx_grid_Grid_Edges_ok : CxOk Tryz.prog Rbx_grid_Grid_Edges := ⟨tabB_sound Rbtab_ok, fun f c h => by cases h⟩
theorem Rbat_grid_Grid_Edges : FnAt Tryz.prog 55 Tryz.f55.ntmps Tryz.f55.results.toList (Tryz.f55.body.getD .skip) := ⟨Tryz.f55, Tryz.func55, rfl, rfl, by simp, by decide⟩
theorem Rbeq_grid_Grid_Edges_0  (post : Int × Unit → Prop) : fnEval Rbx_grid_Grid_Edges nHn Tryz.f55.ntmps Tryz.f55.results.toList (Tryz.f55.body.getD .skip) [.ptr kGrid] [.snap (.int .i64)] (none, ()) post = Fx_grid_Grid_Edges_0   post := by kernel_rfl
theorem Rbeq_grid_Grid_Edges_1 (g : Int × (List (Int × Int × Int × Int)) × (List ((Int × Int) × Int)) × (List (List Int)) × (List Int) × (List Nat) × List Nat) (post : Int × Unit → Prop) : fnEval Rbx_grid_Grid_Edges nHn Tryz.f55.ntmps Tryz.f55.results.toList (Tryz.f55.body.getD .skip) [.ptr kGrid] [.snap (.int .i64)] ((some g), ()) post = Fx_grid_Grid_Edges_1  g post := by kernel_rfl
def RbF_grid_Grid_Edges (x : KS [.ptr kGrid]) (post : RS [.snap (.int .i64)] → Prop) : Prop := match x with
  | (none, y) => Fx_grid_Grid_Edges_0   post
  | (some g, y) => Fx_grid_Grid_Edges_1  g post
theorem Rbh_grid_Grid_Edges : Rbq_grid_Grid_Edges.holds Tryz.prog RbG 55 :=
  detP Rbx_grid_Grid_Edges_ok Rbmixed nHn Rbat_grid_Grid_Edges (F := RbF_grid_Grid_Edges) (fun x post => match x with
    | (none, y) => Rbeq_grid_Grid_Edges_0  post
    | (some g, y) => Rbeq_grid_Grid_Edges_1 g post) fun x h w => match x, h, w with
    | (none, y), h, w => Lx_grid_Grid_Edges_0   w
    | (some g, y), h, w => Lx_grid_Grid_Edges_1  g w
def Rbq_grid_Grid_Area : Con := .det [.ptr kGrid, .int .i64] [.snap (.int .i64)] (fun _ => True) (fun x => nAreaR x.1 x.2.1)
def Rbhn_grid_Grid_Area : Hn := nHn
def Rbx_grid_Grid_Area : Cx := ⟨tabOf Rbtab, conOf [], RbG⟩
theorem Rbx_grid_Grid_Area_ok : CxOk Tryz.prog Rbx_grid_Grid_Area := ⟨tabB_sound Rbtab_ok, fun f c h => by cases h⟩
theorem Rbat_grid_Grid_Area : FnAt Tryz.prog 38 Tryz.f38.ntmps Tryz.f38.results.toList (Tryz.f38.body.getD .skip) := ⟨Tryz.f38, Tryz.func38, rfl, rfl, by simp, by decide⟩
theorem Rbeq_grid_Grid_Area_0 (c : Int) (post : Int × Unit → Prop) : fnEval Rbx_grid_Grid_Area Rbhn_grid_Grid_Area Tryz.f38.ntmps Tryz.f38.results.toList (Tryz.f38.body.getD .skip) [.ptr kGrid, .int .i64] [.snap (.int .i64)] (none, c, ()) post = Fx_grid_Grid_Area_0  c post := by kernel_rfl
theorem Rbeq_grid_Grid_Area_1 (g : Int × (List (Int × Int × Int × Int)) × (List ((Int × Int) × Int)) × (List (List Int)) × (List Int) × (List Nat) × List Nat) (c : Int) (post : Int × Unit → Prop) : fnEval Rbx_grid_Grid_Area Rbhn_grid_Grid_Area Tryz.f38.ntmps Tryz.f38.results.toList (Tryz.f38.body.getD .skip) [.ptr kGrid, .int .i64] [.snap (.int .i64)] ((some g), c, ()) post = Fx_grid_Grid_Area_1  g c post := by kernel_rfl
def RbF_grid_Grid_Area (x : KS [.ptr kGrid, .int .i64]) (post : RS [.snap (.int .i64)] → Prop) : Prop := match x with
  | (none, y) => Fx_grid_Grid_Area_0  y.1 post
  | (some g, y) => Fx_grid_Grid_Area_1  g y.1 post
theorem Rbh_grid_Grid_Area : Rbq_grid_Grid_Area.holds Tryz.prog RbG 38 :=
  detP Rbx_grid_Grid_Area_ok Rbmixed Rbhn_grid_Grid_Area Rbat_grid_Grid_Area (F := RbF_grid_Grid_Area) (fun x post => match x with
    | (none, y) => Rbeq_grid_Grid_Area_0 y.1 post
    | (some g, y) => Rbeq_grid_Grid_Area_1 g y.1 post) fun x h w => match x, h, w with
    | (none, y), h, w => Lx_grid_Grid_Area_0  y.1 w
    | (some g, y), h, w => Lx_grid_Grid_Area_1  g y.1 w
end Go.Lift

set_option linter.unusedVariables false
set_option linter.unusedSimpArgs false
namespace Go.Lift
def Fx_river_kept := fun (l : List Int) (post : Bool × Unit → Prop) => HIs [] [] ∧ ∃ (I : Int × Int × Unit → Unit → Prop), ∃ (μ : Int × Int × Unit → Unit → Nat), I ((0 : Int), (0 :
  Int), ()) () ∧ ∀ (x : Int × Int × Unit) (y : Unit), I x y → ∀ (a : Bool), a = decide (x.fst < (↑l.length : Int)) → Br a (∃ (h : (0 : Int) ≤ x.fst ∧ x.fst < (↑l.length : Int)), ∀
  (a : Bool), a = decide (l.getD x.fst.toNat (0 : Int) < (0 : Int)) → Br a (post (Bool.false, ())) (∀ (a : Bool), a = decide (l.getD x.fst.toNat (0 : Int) > IntKind.i64.wrap
  ((4503599627370496 : Int) - x.snd.fst)) → Br a (post (Bool.false, ())) (HIs [] [] ∧ I (IntKind.i64.wrap (x.fst + (1 : Int)), IntKind.i64.wrap (x.snd.fst + l.getD x.fst.toNat (0 :
  Int)), ()) () ∧ μ (IntKind.i64.wrap (x.fst + (1 : Int)), IntKind.i64.wrap (x.snd.fst + l.getD x.fst.toNat (0 : Int)), ()) () < μ x y))) (post (Bool.true, ()))
theorem Lx_river_kept (l : List Int) (w : KS.wf [.slice (.int .i64)] (l, ())) : Fx_river_kept  l (fun r => r = keptR l) := by
  have hl : l.length ≤ 281474976710656 := w.1.1
  refine ⟨rfl, fun x _ => ∃ k : Nat, x.1 = k ∧ k ≤ l.length ∧ 0 ≤ x.2.1 ∧ x.2.1 ≤ 4503599627370496 ∧ keptF x.2.1 (l.drop k) = keptF 0 l, fun x _ => l.length - x.1.toNat, ⟨0, rfl, by omega, by decide, by decide, rfl⟩, ?_⟩
  rintro ⟨_, s, ⟨⟩⟩ _ ⟨k, rfl, hk, s0, s1, hs⟩
  dsimp only at s0 s1 hs ⊢
  rintro _ rfl
  refine Br.intro (fun d => ?_) fun d => ?_
  rotate_left
  · have d : k = l.length := by have d : ¬ (k : Int) < l.length := of_decide_eq_false d; omega
    rw [d, List.drop_length] at hs
    exact congrArg r1 hs
  have d : k < l.length := by have d : (k : Int) < l.length := of_decide_eq_true d; omega
  rw [drop_at d, keptF_cons] at hs
  rw [Int.toNat_natCast, wi_small (x := 4503599627370496 - s) (by omega) (by omega), wi_succ d (by omega)]
  refine ⟨⟨by omega, by omega⟩, ?_⟩
  rintro _ rfl
  refine Br.intro (fun e => ?_) fun e => ?_
  · have e : at0 l k < 0 := of_decide_eq_true e
    rw [if_pos (.inl e)] at hs
    exact congrArg r1 hs
  have e : ¬ at0 l k < 0 := of_decide_eq_false e
  rintro _ rfl
  refine Br.intro (fun f => ?_) fun f => ?_
  · have f : at0 l k > 4503599627370496 - s := of_decide_eq_true f
    rw [if_pos (.inr f)] at hs
    exact congrArg r1 hs
  have f : ¬ at0 l k > 4503599627370496 - s := of_decide_eq_false f
  rw [if_neg (by omega)] at hs
  have ws : IntKind.i64.wrap (s + l.getD k 0) = s + at0 l k := wi_small (by show _ ≤ s + at0 l k; omega) (by show s + at0 l k < _; omega)
  rw [ws]
  exact ⟨rfl, ⟨k + 1, rfl, by omega, by omega, by omega, hs⟩, by omega⟩
def Fx_slices_Clone_int64_int64 := fun (l : List Int) (post : List Int × Unit → Prop) => ∀ (a : Bool), (a = Bool.true → l.length = (0 : Nat)) → ∀ (a_1 : Bool), (a_1 = if Bool.false
  = Bool.true then !a else a) → Br a_1 (post ([], ())) (∃ (h : (0 : Nat) = (0 : Nat) ∧ ((0 : Nat) + l.length) * (8 : Nat) ≤ (140737488355328 : Nat)), ((0 : Nat) = (0 : Nat) ∧ (0 :
  Nat) + l.length = ([] ++ l).length) ∧ post ([] ++ l, ()))
theorem Lx_slices_Clone_int64_int64 (l : List Int) (h : WSame l) : Fx_slices_Clone_int64_int64  l (fun r => r = sameLR l) := by
  intro a ha a1 h1
  have h1 : a1 = a := h1
  subst h1
  refine Br.intro (fun e => ?_) fun e => ?_
  · have := List.eq_nil_of_length_eq_zero (ha e)
    subst this; rfl
  · have hl : l.length ≤ 65536 := h
    exact ⟨⟨by trivial, by omega⟩, ⟨by trivial, by rw [List.nil_append]; omega⟩, by rw [List.nil_append]; rfl⟩
def Fx_river_Down_0 := fun (bed : List Nat) (c : Int) (post : Int × Unit → Prop) => post ((-1 : Int), ())
theorem Lx_river_Down_0 (bed : List Nat) (c : Int) (h : WRvDown none bed c) (w : KS.wf [.ptr kGrid, .slice (.flt .f64), .int .i64] (none, bed, c, ())) : Fx_river_Down_0  bed c (fun r => r = rvDownR none bed c) := by
  exact rfl
def Fx_river_Down_1 := fun (g : Int × List (Int × Int × Int × Int) × List ((Int × Int) × Int) × List (List Int) × List Int × List Nat × List Nat) (bed : List Nat) (c : Int) (post :
  Int × Unit → Prop) => ∃ (h : True), ∀ (a : Bool), a = ((↑bed.length : Int) != (nCellsR (Option.some g)).fst) → Br a (post ((-1 : Int), ())) (∀ (a : Bool), a = decide (c < (0 :
  Int)) → Br a (post ((-1 : Int), ())) (∀ (a : Bool), a = decide (c ≥ (↑bed.length : Int)) → Br a (post ((-1 : Int), ())) (HIs [] [] ∧ ∃ (I : Int × Int × Unit → Unit → Prop), ∃ (μ :
  Int × Int × Unit → Unit → Nat), I ((0 : Int), (-1 : Int), ()) () ∧ ∀ (x : Int × Int × Unit) (y : Unit), I x y → ∀ (a : Bool), a = decide (x.fst < (4 : Int)) → Br a (∃ (h : WNet
  (Option.some g) c x.fst), ∀ (a : Int × Int × Unit), a = nAroundR (Option.some g) c x.fst → ∃ (h : WNet1 (Option.some g) a.fst), ∀ (a_1 : Bool), a_1 = decide (x.snd.fst ≥ (0 :
  Int)) → Br a_1 (∃ (h : (0 : Int) ≤ IntKind.i64.wrap (IntKind.i64.wrap ((nEdgeR (Option.some g) a.fst).fst.fst + (nEdgeR (Option.some g) a.fst).fst.snd.snd.fst) - c) ∧
  IntKind.i64.wrap (IntKind.i64.wrap ((nEdgeR (Option.some g) a.fst).fst.fst + (nEdgeR (Option.some g) a.fst).fst.snd.snd.fst) - c) < (↑bed.length : Int)), ∃ (h : (0 : Int) ≤
  x.snd.fst ∧ x.snd.fst < (↑bed.length : Int)), ∃ (h : W2 (bed.getD (IntKind.i64.wrap (IntKind.i64.wrap ((nEdgeR (Option.some g) a.fst).fst.fst + (nEdgeR (Option.some g)
  a.fst).fst.snd.snd.fst) - c)).toNat (0 : Nat)) (bed.getD x.snd.fst.toNat (0 : Nat))), ∀ (a_2 : Int × Unit), a_2 = comparR (bed.getD (IntKind.i64.wrap (IntKind.i64.wrap ((nEdgeR
  (Option.some g) a.fst).fst.fst + (nEdgeR (Option.some g) a.fst).fst.snd.snd.fst) - c)).toNat (0 : Nat)) (bed.getD x.snd.fst.toNat (0 : Nat)) → ∀ (a_3 : Bool), a_3 = decide
  (a_2.fst > (0 : Int)) → Br a_3 (HIs [] [] ∧ I (IntKind.i64.wrap (x.fst + (1 : Int)), x.snd.fst, ()) () ∧ μ (IntKind.i64.wrap (x.fst + (1 : Int)), x.snd.fst, ()) () < μ x y) (∀
  (a_4 : Bool), a_4 = (a_2.fst == (0 : Int)) → Br a_4 (∀ (a_5 : Bool), a_5 = decide (IntKind.i64.wrap (IntKind.i64.wrap ((nEdgeR (Option.some g) a.fst).fst.fst + (nEdgeR
  (Option.some g) a.fst).fst.snd.snd.fst) - c) > x.snd.fst) → Br a_5 (HIs [] [] ∧ I (IntKind.i64.wrap (x.fst + (1 : Int)), x.snd.fst, ()) () ∧ μ (IntKind.i64.wrap (x.fst + (1 :
  Int)), x.snd.fst, ()) () < μ x y) (HIs [] [] ∧ I (IntKind.i64.wrap (x.fst + (1 : Int)), IntKind.i64.wrap (IntKind.i64.wrap ((nEdgeR (Option.some g) a.fst).fst.fst + (nEdgeR
  (Option.some g) a.fst).fst.snd.snd.fst) - c), ()) () ∧ μ (IntKind.i64.wrap (x.fst + (1 : Int)), IntKind.i64.wrap (IntKind.i64.wrap ((nEdgeR (Option.some g) a.fst).fst.fst +
  (nEdgeR (Option.some g) a.fst).fst.snd.snd.fst) - c), ()) () < μ x y)) (HIs [] [] ∧ I (IntKind.i64.wrap (x.fst + (1 : Int)), IntKind.i64.wrap (IntKind.i64.wrap ((nEdgeR
  (Option.some g) a.fst).fst.fst + (nEdgeR (Option.some g) a.fst).fst.snd.snd.fst) - c), ()) () ∧ μ (IntKind.i64.wrap (x.fst + (1 : Int)), IntKind.i64.wrap (IntKind.i64.wrap
  ((nEdgeR (Option.some g) a.fst).fst.fst + (nEdgeR (Option.some g) a.fst).fst.snd.snd.fst) - c), ()) () < μ x y))) (HIs [] [] ∧ I (IntKind.i64.wrap (x.fst + (1 : Int)),
  IntKind.i64.wrap (IntKind.i64.wrap ((nEdgeR (Option.some g) a.fst).fst.fst + (nEdgeR (Option.some g) a.fst).fst.snd.snd.fst) - c), ()) () ∧ μ (IntKind.i64.wrap (x.fst + (1 :
  Int)), IntKind.i64.wrap (IntKind.i64.wrap ((nEdgeR (Option.some g) a.fst).fst.fst + (nEdgeR (Option.some g) a.fst).fst.snd.snd.fst) - c), ()) () < μ x y)) (∃ (h : (0 : Int) ≤
  x.snd.fst ∧ x.snd.fst < (↑bed.length : Int)), ∃ (h : (0 : Int) ≤ c ∧ c < (↑bed.length : Int)), ∃ (h : W2 (bed.getD x.snd.fst.toNat (0 : Nat)) (bed.getD c.toNat (0 : Nat))), ∀ (a :
  Int × Unit), a = comparR (bed.getD x.snd.fst.toNat (0 : Nat)) (bed.getD c.toNat (0 : Nat)) → ∀ (a_1 : Bool), a_1 = decide (a.fst ≥ (0 : Int)) → Br a_1 (post ((-1 : Int), ()))
  (post (x.snd.fst, ()))))))
theorem Lx_river_Down_1 (g : Int × (List (Int × Int × Int × Int)) × (List ((Int × Int) × Int)) × (List (List Int)) × (List Int) × (List Nat) × List Nat) (bed : List Nat) (c : Int) (h : WRvDown (some g) bed c) (w : KS.wf [.ptr kGrid, .slice (.flt .f64), .int .i64] ((some g), bed, c, ())) : Fx_river_Down_1  g bed c (fun r => r = rvDownR (some g) bed c) := by
  obtain ⟨hg, hw⟩ := h
  obtain ⟨n, gn, rfl⟩ := netP_some hg
  have hC : (nCellsR (some (netG n))).1 = cellsI n := nCells_net n
  have hR : rvDownR (some (netG n)) bed c = r1 (downF true (cellsI n) n bed c) := by unfold rvDownR; rw [nCells_net]; rfl
  have cr := cells_rng n
  refine ⟨trivial, ?_⟩
  rw [hC, hR]
  rintro _ rfl
  refine Br.intro (fun e => congrArg r1 (downF_bad (.inl (bne_iff_ne.1 e))).symm) fun e => ?_
  have e1 : (bed.length : Int) = cellsI n := by simpa using e
  rintro _ rfl
  refine Br.intro (fun e => congrArg r1 (downF_bad (.inr (.inl (of_decide_eq_true e)))).symm) fun e => ?_
  have e2 := of_decide_eq_false e
  rintro _ rfl
  refine Br.intro (fun e => congrArg r1 (downF_bad (.inr (.inr (of_decide_eq_true e)))).symm) fun e => ?_
  have e3 := of_decide_eq_false e
  rw [downF_ok e1 (by omega) (by omega)]
  have hp : placeOk n c = true := by
    obtain ⟨k, rfl⟩ : ∃ k : Nat, c = k := ⟨c.toNat, by omega⟩
    exact place_nat (by omega)
  refine ⟨rfl, fun x _ => ∃ k : Nat, x.1 = k ∧ k ≤ 4 ∧ x.2.1 = bestN n bed c k, fun x _ => 4 - x.1.toNat, ⟨0, rfl, by omega, rfl⟩, ?_⟩
  rintro ⟨_, _, ⟨⟩⟩ _ ⟨k, rfl, hk, rfl⟩
  dsimp only
  have wg : ∀ i : Int, 0 ≤ i → i < (bed.length : Int) → W64 (bed.getD i.toNat 0) := fun i h1 h2 => hw _ (getD_mem (by omega) 0)
  rintro _ rfl
  refine Br.intro (fun d => ?_) fun d => ?_
  rotate_left
  · have d : k = 4 := by have d : ¬ (k : Int) < 4 := of_decide_eq_false d; omega
    subst d
    obtain ⟨b1, b2⟩ := best4 (bed := bed) hp
    refine ⟨⟨by omega, by omega⟩, ⟨by omega, by omega⟩, ⟨wg _ (by omega) (by omega), wg _ (by omega) (by omega)⟩, ?_⟩
    rintro _ rfl
    rintro _ rfl
    refine Br.intro (fun q => ?_) fun q => ?_
    · have q : ¬ okeyB bed (bestN n bed c 4) < okeyB bed c := fun w => absurd (of_decide_eq_true q) (by
        have : (comparR (bed.getD (bestN n bed c 4).toNat 0) (bed.getD c.toNat 0)).fst < 0 := cmpI_lt.2 w
        omega)
      show ((-1 : Int), ()) = (downN n bed c, ())
      unfold downN
      rw [if_neg q]
    · have q : okeyB bed (bestN n bed c 4) < okeyB bed c := cmpI_lt.1 (by
        have : ¬ (comparR (bed.getD (bestN n bed c 4).toNat 0) (bed.getD c.toNat 0)).fst ≥ 0 := of_decide_eq_false q
        show (comparR (bed.getD (bestN n bed c 4).toNat 0) (bed.getD c.toNat 0)).fst < 0
        omega)
      show (bestN n bed c 4, ()) = (downN n bed c, ())
      unfold downN
      rw [if_pos q]
  have d : k < 4 := by have d : (k : Int) < 4 := of_decide_eq_true d; omega
  obtain ⟨f1, f2, f3, f4⟩ := bestN_facts (bed := bed) hp k hk
  obtain ⟨t1, t2⟩ := beside_place hp d
  have hs : bestN n bed c (k + 1) = stepB bed (bestN n bed c k) (besideI n c k).1 := rfl
  have wk : IntKind.i64.wrap ((k : Int) + 1) = ((k + 1 : Nat) : Int) := wi_succ d (by omega)
  have ok : besideOk n c (k : Int) = true := besideOk_iff.2 ⟨hp, by omega, by omega⟩
  obtain ⟨q, hq, ha, ht⟩ := edge_to ok
  have hE := (netN_ok n (cellsI n).toNat (by omega)).2
  have hE : (netE n).1.length ≤ 4 * (cellsI n).toNat := hE
  have et : IntKind.i64.wrap (IntKind.i64.wrap ((nEdge (some (netG n)) q).1 + (nEdge (some (netG n)) q).2.2.1) - c) = (besideI n c k).1 := by
    rw [ht, wi_small (x := c + (besideI n c k).1) (by omega) (by omega), wi_small (by omega) (by omega)]; omega
  refine ⟨⟨hg, ⟨by omega, by omega⟩, by omega, by omega⟩, ?_⟩
  rintro _ rfl
  have hA : (nAroundR (some (netG n)) c k).fst = q := ha
  have hEd : (nEdgeR (some (netG n)) q).fst = nEdge (some (netG n)) q := rfl
  rw [hA, hEd, et, wk]
  refine ⟨⟨hg, by omega, by omega⟩, ?_⟩
  have nskip : bestN n bed c (k + 1) = bestN n bed c k → HIs [] [] ∧ (∃ j : Nat, ((k + 1 : Nat) : Int) = j ∧ j ≤ 4 ∧ bestN n bed c k = bestN n bed c j) ∧ 4 - (((k + 1 : Nat) : Int)).toNat < 4 - ((k : Nat) : Int).toNat := fun h => ⟨rfl, ⟨k + 1, rfl, by omega, h.symm⟩, by omega⟩
  have ntake : bestN n bed c (k + 1) = (besideI n c k).1 → HIs [] [] ∧ (∃ j : Nat, ((k + 1 : Nat) : Int) = j ∧ j ≤ 4 ∧ (besideI n c k).1 = bestN n bed c j) ∧ 4 - (((k + 1 : Nat) : Int)).toNat < 4 - ((k : Nat) : Int).toNat := fun h => ⟨rfl, ⟨k + 1, rfl, by omega, h.symm⟩, by omega⟩
  rintro _ rfl
  refine Br.intro (fun f => ?_) fun f => ntake (by rw [hs]; exact stepB_take (.inl (by have := of_decide_eq_false f; omega)))
  have f := of_decide_eq_true f
  refine ⟨⟨t1, by omega⟩, ⟨by omega, by omega⟩, ⟨wg _ t1 (by omega), wg _ (by omega) (by omega)⟩, ?_⟩
  rintro _ rfl
  have hcm : (comparR (bed.getD (besideI n c k).1.toNat 0) (bed.getD (bestN n bed c k).toNat 0)).fst = cmpI (okeyB bed (besideI n c k).1) (okeyB bed (bestN n bed c k)) := rfl
  rw [hcm]
  rintro _ rfl
  refine Br.intro (fun g1 => nskip (by rw [hs]; exact stepB_skip (by omega) (.inl (cmpI_gt.1 (of_decide_eq_true g1))))) fun g1 => ?_
  have g1 : ¬ okeyB bed (besideI n c k).1 > okeyB bed (bestN n bed c k) := fun w => of_decide_eq_false g1 (cmpI_gt.2 w)
  rintro _ rfl
  refine Br.intro (fun g2 => ?_) fun g2 => ntake (by
    rw [hs]
    have g2 : ¬ cmpI (okeyB bed (besideI n c k).1) (okeyB bed (bestN n bed c k)) = 0 := by simpa using g2
    rw [cmpI_eq] at g2
    exact stepB_take (.inr (.inl (by omega))))
  have g2 : okeyB bed (besideI n c k).1 = okeyB bed (bestN n bed c k) := cmpI_eq.1 (by simpa using g2)
  rintro _ rfl
  exact Br.intro (fun g3 => nskip (by rw [hs]; exact stepB_skip (by omega) (.inr ⟨g2, by have := of_decide_eq_true g3; omega⟩))) fun g3 => ntake (by rw [hs]; exact stepB_take (.inr (.inr ⟨g2, by have := of_decide_eq_false g3; omega⟩)))
def Fx_law19_ints := fun (a b : List Int) (post : Bool × Unit → Prop) => ∀ (a_1 : Bool), a_1 = ((↑a.length : Int) != (↑b.length : Int)) → Br a_1 (post (Bool.false, ())) (HIs [] [] ∧
  ∃ (I : Int × Unit → Unit → Prop), ∃ (μ : Int × Unit → Unit → Nat), I ((0 : Int), ()) () ∧ ∀ (x : Int × Unit) (y : Unit), I x y → ∀ (a_2 : Bool), a_2 = decide (x.fst < (↑a.length :
  Int)) → Br a_2 (∃ (h : (0 : Int) ≤ x.fst ∧ x.fst < (↑a.length : Int)), ∃ (h : (0 : Int) ≤ x.fst ∧ x.fst < (↑b.length : Int)), ∀ (a_3 : Bool), a_3 = (a.getD x.fst.toNat (0 : Int)
  != b.getD x.fst.toNat (0 : Int)) → Br a_3 (post (Bool.false, ())) (HIs [] [] ∧ I (IntKind.i64.wrap (x.fst + (1 : Int)), ()) () ∧ μ (IntKind.i64.wrap (x.fst + (1 : Int)), ()) () <
  μ x y)) (post (Bool.true, ())))
theorem Lx_law19_ints (a : List Int) (b : List Int) (w : KS.wf [.slice (.int .i64), .slice (.int .i64)] (a, b, ())) : Fx_law19_ints  a b (fun r => r = intsR a b) := by
  have ha : a.length ≤ maxN := w.1.1
  have hm : maxN ≤ 9223372036854775807 := by decide
  rintro _ rfl
  refine Br.intro (fun e => congrArg r1 ?_) fun e => ?_
  · have e : ¬ a.length = b.length := fun q => by rw [q] at e; simp at e
    exact (beq_eq_false_iff_ne.2 fun q => e (congrArg List.length q)).symm
  have e : a.length = b.length := by
    have : ((a.length : Int) == (b.length : Int)) = true := by
      have e : (!((a.length : Int) == (b.length : Int))) = false := e
      simpa using e
    have := beq_iff_eq.1 this
    omega
  refine ⟨rfl, fun x _ => ∃ k : Nat, x.1 = k ∧ k ≤ a.length ∧ a.take k = b.take k, fun x _ => a.length - x.1.toNat, ⟨0, rfl, by omega, rfl⟩, ?_⟩
  rintro ⟨_, ⟨⟩⟩ _ ⟨k, rfl, hk, hq⟩
  dsimp only
  rintro _ rfl
  refine Br.intro (fun e1 => ?_) fun e1 => ?_
  · have e1 : k < a.length := by have := of_decide_eq_true e1; omega
    rw [Int.toNat_natCast, wi_succ e1 (by omega)]
    have ta := take_step e1 0
    have tb := take_step (l := b) (i := k) (by omega) 0
    refine ⟨⟨by omega, by omega⟩, ⟨by omega, by omega⟩, ?_⟩
    rintro _ rfl
    refine Br.intro (fun e2 => congrArg r1 ?_) fun e2 => ?_
    · have e2 : ¬ a.getD k 0 = b.getD k 0 := bne_iff_ne.1 e2
      refine (beq_eq_false_iff_ne.2 fun q => e2 ?_).symm
      rw [q]
    · have e2 : a.getD k 0 = b.getD k 0 := by
        have e2 : (!(a.getD k 0 == b.getD k 0)) = false := e2
        simpa using e2
      exact ⟨rfl, ⟨k + 1, rfl, by omega, by rw [ta, tb, hq, e2]⟩, by omega⟩
  · have e1 : k = a.length := by have := of_decide_eq_false e1; omega
    subst e1
    refine congrArg r1 (beq_iff_eq.2 ?_).symm
    rw [List.take_length] at hq
    rw [hq, e, List.take_length]
def Fx_law19_numbers := fun (a b : List Int) (post : Bool × Unit → Prop) => ∀ (a_1 : Bool), a_1 = ((↑a.length : Int) != (↑b.length : Int)) → Br a_1 (post (Bool.false, ())) (HIs []
  [] ∧ ∃ (I : Int × Unit → Unit → Prop), ∃ (μ : Int × Unit → Unit → Nat), I ((0 : Int), ()) () ∧ ∀ (x : Int × Unit) (y : Unit), I x y → ∀ (a_2 : Bool), a_2 = decide (x.fst <
  (↑a.length : Int)) → Br a_2 (∃ (h : (0 : Int) ≤ x.fst ∧ x.fst < (↑a.length : Int)), ∃ (h : (0 : Int) ≤ x.fst ∧ x.fst < (↑b.length : Int)), ∀ (a_3 : Bool), a_3 = (a.getD
  x.fst.toNat (0 : Int) != b.getD x.fst.toNat (0 : Int)) → Br a_3 (post (Bool.false, ())) (HIs [] [] ∧ I (IntKind.i64.wrap (x.fst + (1 : Int)), ()) () ∧ μ (IntKind.i64.wrap (x.fst +
  (1 : Int)), ()) () < μ x y)) (post (Bool.true, ())))
theorem Lx_law19_numbers (a : List Int) (b : List Int) (w : KS.wf [.slice (.int .i64), .slice (.int .i64)] (a, b, ())) : Fx_law19_numbers  a b (fun r => r = intsR a b) := by
  have ha : a.length ≤ maxN := w.1.1
  have hm : maxN ≤ 9223372036854775807 := by decide
  rintro _ rfl
  refine Br.intro (fun e => congrArg r1 ?_) fun e => ?_
  · have e : ¬ a.length = b.length := fun q => by rw [q] at e; simp at e
    exact (beq_eq_false_iff_ne.2 fun q => e (congrArg List.length q)).symm
  have e : a.length = b.length := by
    have : ((a.length : Int) == (b.length : Int)) = true := by
      have e : (!((a.length : Int) == (b.length : Int))) = false := e
      simpa using e
    have := beq_iff_eq.1 this
    omega
  refine ⟨rfl, fun x _ => ∃ k : Nat, x.1 = k ∧ k ≤ a.length ∧ a.take k = b.take k, fun x _ => a.length - x.1.toNat, ⟨0, rfl, by omega, rfl⟩, ?_⟩
  rintro ⟨_, ⟨⟩⟩ _ ⟨k, rfl, hk, hq⟩
  dsimp only
  rintro _ rfl
  refine Br.intro (fun e1 => ?_) fun e1 => ?_
  · have e1 : k < a.length := by have := of_decide_eq_true e1; omega
    rw [Int.toNat_natCast, wi_succ e1 (by omega)]
    have ta := take_step e1 0
    have tb := take_step (l := b) (i := k) (by omega) 0
    refine ⟨⟨by omega, by omega⟩, ⟨by omega, by omega⟩, ?_⟩
    rintro _ rfl
    refine Br.intro (fun e2 => congrArg r1 ?_) fun e2 => ?_
    · have e2 : ¬ a.getD k 0 = b.getD k 0 := bne_iff_ne.1 e2
      refine (beq_eq_false_iff_ne.2 fun q => e2 ?_).symm
      rw [q]
    · have e2 : a.getD k 0 = b.getD k 0 := by
        have e2 : (!(a.getD k 0 == b.getD k 0)) = false := e2
        simpa using e2
      exact ⟨rfl, ⟨k + 1, rfl, by omega, by rw [ta, tb, hq, e2]⟩, by omega⟩
  · have e1 : k = a.length := by have := of_decide_eq_false e1; omega
    subst e1
    refine congrArg r1 (beq_iff_eq.2 ?_).symm
    rw [List.take_length] at hq
    rw [hq, e, List.take_length]
end Go.Lift

set_option linter.unusedVariables false
set_option linter.unusedSimpArgs false
namespace Go.Lift
end Go.Lift

set_option linter.unusedVariables false
set_option linter.unusedSimpArgs false
namespace Go.Lift
end Go.Lift

set_option linter.unusedVariables false
set_option linter.unusedSimpArgs false
namespace Go.Lift
open Go.Proofs
end Go.Lift

set_option linter.unusedVariables false
set_option linter.unusedSimpArgs false
namespace Go.Lift
end Go.Lift

set_option linter.unusedVariables false
set_option linter.unusedSimpArgs false
namespace Go.Lift
open Go.Proofs
end Go.Lift

set_option linter.unusedVariables false
set_option linter.unusedSimpArgs false
namespace Go.Lift
open Go.Proofs
end Go.Lift

set_option linter.unusedVariables false
set_option linter.unusedSimpArgs false
namespace Go.Lift
end Go.Lift

set_option linter.unusedVariables false
set_option linter.unusedSimpArgs false
namespace Go.Lift
end Go.Lift

set_option linter.unusedVariables false
set_option linter.unusedSimpArgs false
namespace Go.Lift
end Go.Lift

set_option linter.unusedVariables false
set_option linter.unusedSimpArgs false
namespace Go.Lift
open Go.Proofs
end Go.Lift

set_option linter.unusedVariables false
set_option linter.unusedSimpArgs false
namespace Go.Lift
open Go.Proofs
end Go.Lift

set_option linter.unusedVariables false
set_option linter.unusedSimpArgs false
namespace Go.Lift
open Ieee
end Go.Lift

set_option linter.unusedVariables false
set_option linter.unusedSimpArgs false
namespace Go.Lift
end Go.Lift

set_option linter.unusedVariables false
set_option linter.unusedSimpArgs false
namespace Go.Lift
end Go.Lift

set_option linter.unusedVariables false
set_option linter.unusedSimpArgs false
namespace Go.Lift
open Go.Proofs
end Go.Lift

set_option linter.unusedVariables false
set_option linter.unusedSimpArgs false
namespace Go.Lift
open Go.Proofs
end Go.Lift

set_option linter.unusedVariables false
set_option linter.unusedSimpArgs false
namespace Go.Lift
open Go.Proofs
end Go.Lift

set_option linter.unusedVariables false
set_option linter.unusedSimpArgs false
namespace Go.Lift
def Fx_grid_Grid_is_0 := fun (e : Int) (post : Bool × Unit → Prop) => post (Bool.false, ())
theorem Lx_grid_Grid_is_0 (e : Int) (h : WNet1 none e) (w : KS.wf [.ptr kGrid, .int .i64] (none, e, ())) : Fx_grid_Grid_is_0  e (fun r => r = nIsR none e) := by
  exact rfl
def Fx_grid_Grid_is_1 := fun (g : Int × List (Int × Int × Int × Int) × List ((Int × Int) × Int) × List (List Int) × List Int × List Nat × List Nat) (e : Int) (post : Bool × Unit →
  Prop) => ∀ (a : Bool), a = decide (e ≥ (0 : Int)) → Br a (∃ (h : Option.some g ≠ Option.none), ∀ (a : Bool), a = decide (e < (↑g.snd.fst.length : Int)) → post (a, ())) (post
  (Bool.false, ()))
theorem Lx_grid_Grid_is_1 (g : Int × (List (Int × Int × Int × Int)) × (List ((Int × Int) × Int)) × (List (List Int)) × (List Int) × (List Nat) × List Nat) (e : Int) (h : WNet1 (some g) e) (w : KS.wf [.ptr kGrid, .int .i64] ((some g), e, ())) : Fx_grid_Grid_is_1  g e (fun r => r = nIsR (some g) e) := by
  rintro _ rfl
  refine Br.intro (fun e1 => ?_) fun e1 => ?_
  · refine ⟨by simp, ?_⟩
    rintro _ rfl
    show _ = (decide (0 ≤ e) && decide (e < (g.2.1.length : Nat)), ())
    rw [decide_eq_true (p := 0 ≤ e) (of_decide_eq_true e1)]; rfl
  · show _ = (decide (0 ≤ e) && decide (e < (g.2.1.length : Nat)), ())
    rw [decide_eq_false (p := 0 ≤ e) (of_decide_eq_false e1)]; rfl
def Fx_grid_Grid_Edge_0 := fun (e : Int) (post : (Int × Int × Int × Int) × Bool × Unit → Prop) => ∃ (h : WNet1 Option.none e), ∀ (a : Bool), a = (nIsR Option.none e).fst → Br (!a)
  (post (((0 : Int), (0 : Int), (0 : Int), (0 : Int)), Bool.false, ())) (∃ (h : (Option.none : Option (Int × (List (Int × Int × Int × Int)) × (List ((Int × Int) × Int)) × (List
  (List Int)) × (List Int) × (List Nat) × List Nat)) ≠ Option.none), False)
theorem Lx_grid_Grid_Edge_0 (e : Int) (h : WNet1 none e) (w : KS.wf [.ptr kGrid, .int .i64] (none, e, ())) : Fx_grid_Grid_Edge_0  e (fun r => r = nEdgeR none e) := by
  refine ⟨h, ?_⟩
  rintro _ rfl
  exact Br.intro (fun _ => rfl) fun q => by cases q
def Fx_grid_Grid_Edge_1 := fun (g : Int × List (Int × Int × Int × Int) × List ((Int × Int) × Int) × List (List Int) × List Int × List Nat × List Nat) (e : Int) (post : (Int × Int ×
  Int × Int) × Bool × Unit → Prop) => ∃ (h : WNet1 (Option.some g) e), ∀ (a : Bool), a = (nIsR (Option.some g) e).fst → Br (!a) (post (((0 : Int), (0 : Int), (0 : Int), (0 : Int)),
  Bool.false, ())) (∃ (h : Option.some g ≠ Option.none), ∃ (h : (0 : Int) ≤ e ∧ e < (↑g.snd.fst.length : Int)), post (((g.snd.fst.getD e.toNat ((K.int IntKind.i64).pair ((K.int
  IntKind.i64).pair ((K.int IntKind.i64).pair (K.int IntKind.i64)))).dflt).fst, (g.snd.fst.getD e.toNat ((K.int IntKind.i64).pair ((K.int IntKind.i64).pair ((K.int IntKind.i64).pair
  (K.int IntKind.i64)))).dflt).snd.fst, (g.snd.fst.getD e.toNat ((K.int IntKind.i64).pair ((K.int IntKind.i64).pair ((K.int IntKind.i64).pair (K.int
  IntKind.i64)))).dflt).snd.snd.fst, (g.snd.fst.getD e.toNat ((K.int IntKind.i64).pair ((K.int IntKind.i64).pair ((K.int IntKind.i64).pair (K.int IntKind.i64)))).dflt).snd.snd.snd),
  Bool.true, ()))
theorem Lx_grid_Grid_Edge_1 (g : Int × (List (Int × Int × Int × Int)) × (List ((Int × Int) × Int)) × (List (List Int)) × (List Int) × (List Nat) × List Nat) (e : Int) (h : WNet1 (some g) e) (w : KS.wf [.ptr kGrid, .int .i64] ((some g), e, ())) : Fx_grid_Grid_Edge_1  g e (fun r => r = nEdgeR (some g) e) := by
  refine ⟨h, ?_⟩
  rintro _ rfl
  have hi : (nIsR (some g) e).1 = (decide (0 ≤ e) && decide (e < (g.2.1.length : Nat))) := rfl
  refine Br.intro (fun q => ?_) fun q => ?_
  · have q : (nIsR (some g) e).1 = false := by simpa using q
    have hn : ¬ (0 ≤ e ∧ e < (g.2.1.length : Nat)) := fun z => by rw [hi, decide_eq_true z.1, decide_eq_true z.2] at q; cases q
    show _ = (nEdge (some g) e, nIs (some g) e, ())
    have q2 : nIs (some g) e = false := q
    unfold nEdge
    dsimp only
    rw [q2, if_neg hn]; rfl
  · have q : (nIsR (some g) e).1 = true := by simpa using q
    have hy : 0 ≤ e ∧ e < (g.2.1.length : Nat) := by
      rw [hi] at q
      simpa using q
    refine ⟨by simp, hy, ?_⟩
    show _ = (nEdge (some g) e, nIs (some g) e, ())
    have q2 : nIs (some g) e = true := q
    unfold nEdge
    dsimp only
    rw [q2, if_pos hy]; rfl
def Fx_grid_Grid_Around_0 := fun (c o : Int) (post : Int × Int × Unit → Prop) => post ((0 : Int), (0 : Int), ())
theorem Lx_grid_Grid_Around_0 (c : Int) (o : Int) (h : WNet none c o) (w : KS.wf [.ptr kGrid, .int .i64, .int .i64] (none, c, o, ())) : Fx_grid_Grid_Around_0  c o (fun r => r = nAroundR none c o) := by
  exact rfl
def Fx_grid_Grid_Around_1 := fun (g : Int × List (Int × Int × Int × Int) × List ((Int × Int) × Int) × List (List Int) × List Int × List Nat × List Nat) (c o : Int) (post : Int × Int
  × Unit → Prop) => ∃ (h : Option.some g ≠ Option.none), Br (!(mget (c, o) g.snd.snd.fst).isSome) (post ((0 : Int), (0 : Int), ())) (∃ (h : Option.some g ≠ Option.none), ∃ (h : (0 :
  Int) ≤ (mget (c, o) g.snd.snd.fst).getD (0 : Int) ∧ (mget (c, o) g.snd.snd.fst).getD (0 : Int) < (↑g.snd.fst.length : Int)), ∀ (a : Bool), a = ((g.snd.fst.getD ((mget (c, o)
  g.snd.snd.fst).getD (0 : Int)).toNat ((K.int IntKind.i64).pair ((K.int IntKind.i64).pair ((K.int IntKind.i64).pair (K.int IntKind.i64)))).dflt).fst == c) → Br a (post ((mget (c,
  o) g.snd.snd.fst).getD (0 : Int), (1 : Int), ())) (post ((mget (c, o) g.snd.snd.fst).getD (0 : Int), (-1 : Int), ())))
theorem Lx_grid_Grid_Around_1 (g : Int × (List (Int × Int × Int × Int)) × (List ((Int × Int) × Int)) × (List (List Int)) × (List Int) × (List Nat) × List Nat) (c : Int) (o : Int) (h : WNet (some g) c o) (w : KS.wf [.ptr kGrid, .int .i64, .int .i64] ((some g), c, o, ())) : Fx_grid_Grid_Around_1  g c o (fun r => r = nAroundR (some g) c o) := by
  obtain ⟨hg, hc, ho⟩ := h
  obtain ⟨n, gn, hgn⟩ : ∃ n, goodC n = true ∧ g = netG n := by
    rcases hg with hg | ⟨n, gn, hg⟩
    · cases hg
    · exact ⟨n, gn, Option.some.inj hg⟩
  subst hgn
  refine ⟨by simp, ?_⟩
  have hr : nAroundR (some (netG n)) c o = match mget (c, o) (netE n).2 with
      | none => ((0 : Int), (0 : Int), ())
      | some e => if ((netE n).1.getD e.toNat dEd).1 = c then (e, (1 : Int), ()) else (e, (-1 : Int), ()) := by
    unfold nAroundR nAround netG
    dsimp only
    cases mget (c, o) (netE n).2 with
    | none => rfl
    | some e => dsimp only; split <;> rfl
  rw [hr]
  by_cases ok : besideOk n c o = true
  · obtain ⟨k, hk, k1, _, _⟩ := net_side ok
    have k1' : mget (c, o) (netG n).2.2.1 = some (k : Int) := k1
    rw [k1', k1]
    refine Br.intro (fun q => by cases q) fun _ => ?_
    refine ⟨by simp, ⟨by show (0 : Int) ≤ k; omega, by show (k : Int) < ((netE n).1.length : Nat); omega⟩, ?_⟩
    intro a ha
    have ha : a = decide (((netE n).1.getD (k : Int).toNat dEd).1 = c) := ha
    rw [ha]
    dsimp only
    refine Br.intro (fun q => ?_) fun q => ?_
    · rw [if_pos (of_decide_eq_true q)]; rfl
    · rw [if_neg (of_decide_eq_false q)]; rfl
  · have k1 := net_none ok
    have k1' : mget (c, o) (netG n).2.2.1 = none := k1
    rw [k1', k1]
    exact Br.intro (fun _ => rfl) fun q => by cases q
end Go.Lift
