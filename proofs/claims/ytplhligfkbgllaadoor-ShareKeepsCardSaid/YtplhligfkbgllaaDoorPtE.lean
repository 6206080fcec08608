/- A part of the proof of ShareKeepsCard: an own lifter of code into plain terms, and plain laws. -/
import Derived.Laws.Externs
import Derived.Test.YtplhligfkbgllaaDoorPtD
set_option linter.unusedVariables false
set_option linter.unusedSimpArgs false
set_option linter.unusedSectionVars false
set_option linter.unusedVariables false
set_option linter.unusedSimpArgs false
namespace Go.Lift
def Fx_law14_ShareKeeps := fun (ty2 : Nat) (n : Int) (s f : List Int) (post : Bool × Unit → Prop) => ∃ (h : True), ∀ (a : Bool), a = yesR.fst → Br (!a) (post (Bool.false, ())) (∃ (h
  : (4 : Int) ≠ (0 : Int)), ∃ (h : I64 (IntKind.i64.wrap ((1 : Int) + IntKind.i64.wrap ((IntKind.u64.wrap n).tmod (4 : Int))))), ∃ (h : True), ∃ (h : WFit s (IntKind.i64.wrap
  ((nCellsR (newR (IntKind.i64.wrap ((1 : Int) + IntKind.i64.wrap ((IntKind.u64.wrap n).tmod (4 : Int))))).fst).fst + (2 : Int))) (4503599627370496 : Int) Bool.false), ∀ (a : List
  Int × Unit), a = fitR s (IntKind.i64.wrap ((nCellsR (newR (IntKind.i64.wrap ((1 : Int) + IntKind.i64.wrap ((IntKind.u64.wrap n).tmod (4 : Int))))).fst).fst + (2 : Int)))
  (4503599627370496 : Int) Bool.false → ∃ (h : True), ∃ (h : WFit f (IntKind.i64.wrap ((nEdgesR (newR (IntKind.i64.wrap ((1 : Int) + IntKind.i64.wrap ((IntKind.u64.wrap n).tmod (4 :
  Int))))).fst).fst + (2 : Int))) (4503599627370496 : Int) Bool.true), ∀ (a_1 : List Int × Unit), a_1 = fitR f (IntKind.i64.wrap ((nEdgesR (newR (IntKind.i64.wrap ((1 : Int) +
  IntKind.i64.wrap ((IntKind.u64.wrap n).tmod (4 : Int))))).fst).fst + (2 : Int))) (4503599627370496 : Int) Bool.true → ∃ (h : (0 : Nat) = (0 : Nat) ∧ ((0 : Nat) + (List.take
  a.fst.length (List.drop (0 : Nat) a.fst)).length) * (8 : Nat) ≤ (140737488355328 : Nat)), ∃ (h : (0 : Nat) = (0 : Nat) ∧ ((0 : Nat) + (List.take a_1.fst.length (List.drop (0 :
  Nat) a_1.fst)).length) * (8 : Nat) ≤ (140737488355328 : Nat)), ∃ (h : True), ∃ (h : True), ∃ (h : (0 : Int) ≤ (0 : Int) ∧ (0 : Int) ≤ (nCellsR (newR (IntKind.i64.wrap ((1 : Int) +
  IntKind.i64.wrap ((IntKind.u64.wrap n).tmod (4 : Int))))).fst).fst ∧ (nCellsR (newR (IntKind.i64.wrap ((1 : Int) + IntKind.i64.wrap ((IntKind.u64.wrap n).tmod (4 :
  Int))))).fst).fst ≤ (↑a.fst.length : Int)), ∃ (h : (0 : Int) ≤ (0 : Int) ∧ (0 : Int) ≤ (nEdgesR (newR (IntKind.i64.wrap ((1 : Int) + IntKind.i64.wrap ((IntKind.u64.wrap n).tmod (4
  : Int))))).fst).fst ∧ (nEdgesR (newR (IntKind.i64.wrap ((1 : Int) + IntKind.i64.wrap ((IntKind.u64.wrap n).tmod (4 : Int))))).fst).fst ≤ (↑a_1.fst.length : Int)), ∃ (h : WAll
  (newR (IntKind.i64.wrap ((1 : Int) + IntKind.i64.wrap ((IntKind.u64.wrap n).tmod (4 : Int))))).fst (List.take ((nCellsR (newR (IntKind.i64.wrap ((1 : Int) + IntKind.i64.wrap
  ((IntKind.u64.wrap n).tmod (4 : Int))))).fst).fst - (0 : Int)).toNat (List.drop ((0 : Nat) + Int.toNat (0 : Int)) a.fst)) (List.take ((nEdgesR (newR (IntKind.i64.wrap ((1 : Int) +
  IntKind.i64.wrap ((IntKind.u64.wrap n).tmod (4 : Int))))).fst).fst - (0 : Int)).toNat (List.drop ((0 : Nat) + Int.toNat (0 : Int)) a_1.fst))), ∀ (a_2 : List Int × Int × Unit), a_2
  = sAllR (newR (IntKind.i64.wrap ((1 : Int) + IntKind.i64.wrap ((IntKind.u64.wrap n).tmod (4 : Int))))).fst (List.take ((nCellsR (newR (IntKind.i64.wrap ((1 : Int) +
  IntKind.i64.wrap ((IntKind.u64.wrap n).tmod (4 : Int))))).fst).fst - (0 : Int)).toNat (List.drop ((0 : Nat) + Int.toNat (0 : Int)) a.fst)) (List.take ((nEdgesR (newR
  (IntKind.i64.wrap ((1 : Int) + IntKind.i64.wrap ((IntKind.u64.wrap n).tmod (4 : Int))))).fst).fst - (0 : Int)).toNat (List.drop ((0 : Nat) + Int.toNat (0 : Int)) a_1.fst)) → ∃ (h
  : (0 : Int) ≤ (0 : Int) ∧ (0 : Int) ≤ (nCellsR (newR (IntKind.i64.wrap ((1 : Int) + IntKind.i64.wrap ((IntKind.u64.wrap n).tmod (4 : Int))))).fst).fst ∧ (nCellsR (newR
  (IntKind.i64.wrap ((1 : Int) + IntKind.i64.wrap ((IntKind.u64.wrap n).tmod (4 : Int))))).fst).fst ≤ (↑a.fst.length : Int)), ∃ (h : (0 : Int) ≤ (0 : Int) ∧ (0 : Int) ≤ (nEdgesR
  (newR (IntKind.i64.wrap ((1 : Int) + IntKind.i64.wrap ((IntKind.u64.wrap n).tmod (4 : Int))))).fst).fst ∧ (nEdgesR (newR (IntKind.i64.wrap ((1 : Int) + IntKind.i64.wrap
  ((IntKind.u64.wrap n).tmod (4 : Int))))).fst).fst ≤ (↑a_1.fst.length : Int)), ∃ (h : WAll (newR (IntKind.i64.wrap ((1 : Int) + IntKind.i64.wrap ((IntKind.u64.wrap n).tmod (4 :
  Int))))).fst (List.take ((nCellsR (newR (IntKind.i64.wrap ((1 : Int) + IntKind.i64.wrap ((IntKind.u64.wrap n).tmod (4 : Int))))).fst).fst - (0 : Int)).toNat (List.drop ((0 : Nat)
  + Int.toNat (0 : Int)) a.fst)) (List.take ((nEdgesR (newR (IntKind.i64.wrap ((1 : Int) + IntKind.i64.wrap ((IntKind.u64.wrap n).tmod (4 : Int))))).fst).fst - (0 : Int)).toNat
  (List.drop ((0 : Nat) + Int.toNat (0 : Int)) a_1.fst))), ∀ (a_3 : List Int × Int × Unit), a_3 = sAllR (newR (IntKind.i64.wrap ((1 : Int) + IntKind.i64.wrap ((IntKind.u64.wrap
  n).tmod (4 : Int))))).fst (List.take ((nCellsR (newR (IntKind.i64.wrap ((1 : Int) + IntKind.i64.wrap ((IntKind.u64.wrap n).tmod (4 : Int))))).fst).fst - (0 : Int)).toNat
  (List.drop ((0 : Nat) + Int.toNat (0 : Int)) a.fst)) (List.take ((nEdgesR (newR (IntKind.i64.wrap ((1 : Int) + IntKind.i64.wrap ((IntKind.u64.wrap n).tmod (4 : Int))))).fst).fst -
  (0 : Int)).toNat (List.drop ((0 : Nat) + Int.toNat (0 : Int)) a_1.fst)) → ∃ (h : (0 : Int) ≤ (0 : Int) ∧ (0 : Int) < (↑a.fst.length : Int)), ∃ (h : (0 : Int) ≤ (1 : Int) ∧ (1 :
  Int) ≤ (nCellsR (newR (IntKind.i64.wrap ((1 : Int) + IntKind.i64.wrap ((IntKind.u64.wrap n).tmod (4 : Int))))).fst).fst ∧ (nCellsR (newR (IntKind.i64.wrap ((1 : Int) +
  IntKind.i64.wrap ((IntKind.u64.wrap n).tmod (4 : Int))))).fst).fst ≤ (↑a.fst.length : Int)), ∃ (h : WCu (a.fst.getD ((0 : Nat) + Int.toNat (0 : Int)) (0 : Int)) (List.take
  ((nCellsR (newR (IntKind.i64.wrap ((1 : Int) + IntKind.i64.wrap ((IntKind.u64.wrap n).tmod (4 : Int))))).fst).fst - (1 : Int)).toNat (List.drop ((0 : Nat) + Int.toNat (1 : Int))
  a.fst))), ∃ (h : (0 : Int) ≤ (0 : Int) ∧ (0 : Int) < (↑a.fst.length : Int)), ∃ (h : (0 : Int) ≤ (1 : Int) ∧ (1 : Int) ≤ (nCellsR (newR (IntKind.i64.wrap ((1 : Int) +
  IntKind.i64.wrap ((IntKind.u64.wrap n).tmod (4 : Int))))).fst).fst ∧ (nCellsR (newR (IntKind.i64.wrap ((1 : Int) + IntKind.i64.wrap ((IntKind.u64.wrap n).tmod (4 :
  Int))))).fst).fst ≤ (↑a.fst.length : Int)), ∃ (h : WCu (a.fst.getD ((0 : Nat) + Int.toNat (0 : Int)) (0 : Int)) (List.take ((nCellsR (newR (IntKind.i64.wrap ((1 : Int) +
  IntKind.i64.wrap ((IntKind.u64.wrap n).tmod (4 : Int))))).fst).fst - (1 : Int)).toNat (List.drop ((0 : Nat) + Int.toNat (1 : Int)) a.fst))), ∀ (a_4 : Bool), a_4 = (a_2.snd.fst !=
  (0 : Int)) → Br a_4 (post (Bool.false, ())) (∀ (a_5 : Bool), a_5 = (a_3.snd.fst != (0 : Int)) → Br a_5 (post (Bool.false, ())) (∀ (a_6 : Bool), a_6 = ((cuR (a.fst.getD ((0 : Nat)
  + Int.toNat (0 : Int)) (0 : Int)) (List.take ((nCellsR (newR (IntKind.i64.wrap ((1 : Int) + IntKind.i64.wrap ((IntKind.u64.wrap n).tmod (4 : Int))))).fst).fst - (1 : Int)).toNat
  (List.drop ((0 : Nat) + Int.toNat (1 : Int)) a.fst))).snd.fst != (cuR (a.fst.getD ((0 : Nat) + Int.toNat (0 : Int)) (0 : Int)) (List.take ((nCellsR (newR (IntKind.i64.wrap ((1 :
  Int) + IntKind.i64.wrap ((IntKind.u64.wrap n).tmod (4 : Int))))).fst).fst - (1 : Int)).toNat (List.drop ((0 : Nat) + Int.toNat (1 : Int)) a.fst))).snd.fst) → Br a_6 (post
  (Bool.false, ())) (∃ (h : True), ∀ (a_7 : Bool × Unit), a_7 = intsR (List.take a_2.fst.length (List.drop (0 : Nat) a_2.fst)) (List.take a_3.fst.length (List.drop (0 : Nat)
  a_3.fst)) → ∀ (a_8 : Bool), a_8 = a_7.fst → Br (!a_8) (post (Bool.false, ())) (∃ (h : True), ∀ (a_9 : Bool × Unit), a_9 = intsR (List.take (cuR (a.fst.getD ((0 : Nat) + Int.toNat
  (0 : Int)) (0 : Int)) (List.take ((nCellsR (newR (IntKind.i64.wrap ((1 : Int) + IntKind.i64.wrap ((IntKind.u64.wrap n).tmod (4 : Int))))).fst).fst - (1 : Int)).toNat (List.drop
  ((0 : Nat) + Int.toNat (1 : Int)) a.fst))).fst.length (List.drop (0 : Nat) (cuR (a.fst.getD ((0 : Nat) + Int.toNat (0 : Int)) (0 : Int)) (List.take ((nCellsR (newR
  (IntKind.i64.wrap ((1 : Int) + IntKind.i64.wrap ((IntKind.u64.wrap n).tmod (4 : Int))))).fst).fst - (1 : Int)).toNat (List.drop ((0 : Nat) + Int.toNat (1 : Int)) a.fst))).fst))
  (List.take (cuR (a.fst.getD ((0 : Nat) + Int.toNat (0 : Int)) (0 : Int)) (List.take ((nCellsR (newR (IntKind.i64.wrap ((1 : Int) + IntKind.i64.wrap ((IntKind.u64.wrap n).tmod (4 :
  Int))))).fst).fst - (1 : Int)).toNat (List.drop ((0 : Nat) + Int.toNat (1 : Int)) a.fst))).fst.length (List.drop (0 : Nat) (cuR (a.fst.getD ((0 : Nat) + Int.toNat (0 : Int)) (0 :
  Int)) (List.take ((nCellsR (newR (IntKind.i64.wrap ((1 : Int) + IntKind.i64.wrap ((IntKind.u64.wrap n).tmod (4 : Int))))).fst).fst - (1 : Int)).toNat (List.drop ((0 : Nat) +
  Int.toNat (1 : Int)) a.fst))).fst)) → ∀ (a_10 : Bool), a_10 = a_9.fst → Br (!a_10) (post (Bool.false, ())) (∃ (h : True), ∀ (a_11 : Bool × Unit), a_11 = intsR (List.take ((0 :
  Nat) + (List.take a.fst.length (List.drop (0 : Nat) a.fst)).length) (List.drop (0 : Nat) ([] ++ List.take a.fst.length (List.drop (0 : Nat) a.fst)))) (List.take a.fst.length
  (List.drop (0 : Nat) a.fst)) → ∀ (a_12 : Bool), a_12 = a_11.fst → Br (!a_12) (post (Bool.false, ())) (∃ (h : True), ∀ (a_13 : Bool × Unit), a_13 = intsR (List.take ((0 : Nat) +
  (List.take a_1.fst.length (List.drop (0 : Nat) a_1.fst)).length) (List.drop (0 : Nat) ([] ++ List.take a_1.fst.length (List.drop (0 : Nat) a_1.fst)))) (List.take a_1.fst.length
  (List.drop (0 : Nat) a_1.fst)) → ∀ (a_14 : Bool), a_14 = a_13.fst → Br (!a_14) (post (Bool.false, ())) (∃ (h : (0 : Nat) = (0 : Nat) ∧ ((0 : Nat) + (List.take a_3.fst.length
  (List.drop (0 : Nat) a_3.fst)).length) * (8 : Nat) ≤ (140737488355328 : Nat)), ∃ (h : (0 : Nat) = (0 : Nat) ∧ ((0 : Nat) + (List.take (cuR (a.fst.getD ((0 : Nat) + Int.toNat (0 :
  Int)) (0 : Int)) (List.take ((nCellsR (newR (IntKind.i64.wrap ((1 : Int) + IntKind.i64.wrap ((IntKind.u64.wrap n).tmod (4 : Int))))).fst).fst - (1 : Int)).toNat (List.drop ((0 :
  Nat) + Int.toNat (1 : Int)) a.fst))).fst.length (List.drop (0 : Nat) (cuR (a.fst.getD ((0 : Nat) + Int.toNat (0 : Int)) (0 : Int)) (List.take ((nCellsR (newR (IntKind.i64.wrap ((1
  : Int) + IntKind.i64.wrap ((IntKind.u64.wrap n).tmod (4 : Int))))).fst).fst - (1 : Int)).toNat (List.drop ((0 : Nat) + Int.toNat (1 : Int)) a.fst))).fst)).length) * (8 : Nat) ≤
  (140737488355328 : Nat)), HIs [HObj.row Md.rw ty2 (K.int IntKind.i64) a.fst, HObj.row Md.rw ty2 (K.int IntKind.i64) a_1.fst, HObj.dead, HObj.row Md.rw ty2 (K.int IntKind.i64) ([]
  ++ List.take a.fst.length (List.drop (0 : Nat) a.fst)), HObj.dead, HObj.row Md.rw ty2 (K.int IntKind.i64) ([] ++ List.take a_1.fst.length (List.drop (0 : Nat) a_1.fst)), HObj.row
  Md.rw ty2 (K.int IntKind.i64) a_2.fst, HObj.row Md.rw ty2 (K.int IntKind.i64) a_3.fst, HObj.row Md.rw ty2 (K.int IntKind.i64) (cuR (a.fst.getD ((0 : Nat) + Int.toNat (0 : Int)) (0
  : Int)) (List.take ((nCellsR (newR (IntKind.i64.wrap ((1 : Int) + IntKind.i64.wrap ((IntKind.u64.wrap n).tmod (4 : Int))))).fst).fst - (1 : Int)).toNat (List.drop ((0 : Nat) +
  Int.toNat (1 : Int)) a.fst))).fst, HObj.row Md.rw ty2 (K.int IntKind.i64) (cuR (a.fst.getD ((0 : Nat) + Int.toNat (0 : Int)) (0 : Int)) (List.take ((nCellsR (newR
  (IntKind.i64.wrap ((1 : Int) + IntKind.i64.wrap ((IntKind.u64.wrap n).tmod (4 : Int))))).fst).fst - (1 : Int)).toNat (List.drop ((0 : Nat) + Int.toNat (1 : Int)) a.fst))).fst,
  HObj.dead, HObj.row Md.rw ty2 (K.int IntKind.i64) ([] ++ List.take a_3.fst.length (List.drop (0 : Nat) a_3.fst)), HObj.dead, HObj.row Md.rw ty2 (K.int IntKind.i64) ([] ++
  List.take (cuR (a.fst.getD ((0 : Nat) + Int.toNat (0 : Int)) (0 : Int)) (List.take ((nCellsR (newR (IntKind.i64.wrap ((1 : Int) + IntKind.i64.wrap ((IntKind.u64.wrap n).tmod (4 :
  Int))))).fst).fst - (1 : Int)).toNat (List.drop ((0 : Nat) + Int.toNat (1 : Int)) a.fst))).fst.length (List.drop (0 : Nat) (cuR (a.fst.getD ((0 : Nat) + Int.toNat (0 : Int)) (0 :
  Int)) (List.take ((nCellsR (newR (IntKind.i64.wrap ((1 : Int) + IntKind.i64.wrap ((IntKind.u64.wrap n).tmod (4 : Int))))).fst).fst - (1 : Int)).toNat (List.drop ((0 : Nat) +
  Int.toNat (1 : Int)) a.fst))).fst))] [HObj.row Md.rw ty2 (K.int IntKind.i64) a.fst, HObj.row Md.rw ty2 (K.int IntKind.i64) a_1.fst, HObj.dead, HObj.row Md.rw ty2 (K.int
  IntKind.i64) ([] ++ List.take a.fst.length (List.drop (0 : Nat) a.fst)), HObj.dead, HObj.row Md.rw ty2 (K.int IntKind.i64) ([] ++ List.take a_1.fst.length (List.drop (0 : Nat)
  a_1.fst)), HObj.row Md.rw ty2 (K.int IntKind.i64) a_2.fst, HObj.row Md.rw ty2 (K.int IntKind.i64) a_3.fst, HObj.row Md.rw ty2 (K.int IntKind.i64) (cuR (a.fst.getD ((0 : Nat) +
  Int.toNat (0 : Int)) (0 : Int)) (List.take ((nCellsR (newR (IntKind.i64.wrap ((1 : Int) + IntKind.i64.wrap ((IntKind.u64.wrap n).tmod (4 : Int))))).fst).fst - (1 : Int)).toNat
  (List.drop ((0 : Nat) + Int.toNat (1 : Int)) a.fst))).fst, HObj.row Md.rw ty2 (K.int IntKind.i64) (cuR (a.fst.getD ((0 : Nat) + Int.toNat (0 : Int)) (0 : Int)) (List.take
  ((nCellsR (newR (IntKind.i64.wrap ((1 : Int) + IntKind.i64.wrap ((IntKind.u64.wrap n).tmod (4 : Int))))).fst).fst - (1 : Int)).toNat (List.drop ((0 : Nat) + Int.toNat (1 : Int))
  a.fst))).fst, HObj.dead, HObj.row Md.rw ty2 (K.int IntKind.i64) ([] ++ List.take a_3.fst.length (List.drop (0 : Nat) a_3.fst)), HObj.dead, HObj.row Md.rw ty2 (K.int IntKind.i64)
  ([] ++ List.take (cuR (a.fst.getD ((0 : Nat) + Int.toNat (0 : Int)) (0 : Int)) (List.take ((nCellsR (newR (IntKind.i64.wrap ((1 : Int) + IntKind.i64.wrap ((IntKind.u64.wrap
  n).tmod (4 : Int))))).fst).fst - (1 : Int)).toNat (List.drop ((0 : Nat) + Int.toNat (1 : Int)) a.fst))).fst.length (List.drop (0 : Nat) (cuR (a.fst.getD ((0 : Nat) + Int.toNat (0
  : Int)) (0 : Int)) (List.take ((nCellsR (newR (IntKind.i64.wrap ((1 : Int) + IntKind.i64.wrap ((IntKind.u64.wrap n).tmod (4 : Int))))).fst).fst - (1 : Int)).toNat (List.drop ((0 :
  Nat) + Int.toNat (1 : Int)) a.fst))).fst))] ∧ ∃ (I : Int × Unit → List Int × Unit → Prop), ∃ (μ : Int × Unit → List Int × Unit → Nat), I ((0 : Int), ()) (a_2.fst, ()) ∧ ∀ (x : Int
  × Unit) (y : List Int × Unit), I x y → ∀ (a_15 : Bool), a_15 = decide (x.fst < (↑a_2.fst.length : Int)) → Br a_15 (∃ (h : (0 : Int) ≤ x.fst ∧ x.fst < (↑a_2.fst.length : Int)), HIs
  [HObj.row Md.rw ty2 (K.int IntKind.i64) a.fst, HObj.row Md.rw ty2 (K.int IntKind.i64) a_1.fst, HObj.dead, HObj.row Md.rw ty2 (K.int IntKind.i64) ([] ++ List.take a.fst.length
  (List.drop (0 : Nat) a.fst)), HObj.dead, HObj.row Md.rw ty2 (K.int IntKind.i64) ([] ++ List.take a_1.fst.length (List.drop (0 : Nat) a_1.fst)), HObj.row Md.rw ty2 (K.int
  IntKind.i64) (y.fst.set ((0 : Nat) + x.fst.toNat) (-7 : Int)), HObj.row Md.rw ty2 (K.int IntKind.i64) a_3.fst, HObj.row Md.rw ty2 (K.int IntKind.i64) (cuR (a.fst.getD ((0 : Nat) +
  Int.toNat (0 : Int)) (0 : Int)) (List.take ((nCellsR (newR (IntKind.i64.wrap ((1 : Int) + IntKind.i64.wrap ((IntKind.u64.wrap n).tmod (4 : Int))))).fst).fst - (1 : Int)).toNat
  (List.drop ((0 : Nat) + Int.toNat (1 : Int)) a.fst))).fst, HObj.row Md.rw ty2 (K.int IntKind.i64) (cuR (a.fst.getD ((0 : Nat) + Int.toNat (0 : Int)) (0 : Int)) (List.take
  ((nCellsR (newR (IntKind.i64.wrap ((1 : Int) + IntKind.i64.wrap ((IntKind.u64.wrap n).tmod (4 : Int))))).fst).fst - (1 : Int)).toNat (List.drop ((0 : Nat) + Int.toNat (1 : Int))
  a.fst))).fst, HObj.dead, HObj.row Md.rw ty2 (K.int IntKind.i64) ([] ++ List.take a_3.fst.length (List.drop (0 : Nat) a_3.fst)), HObj.dead, HObj.row Md.rw ty2 (K.int IntKind.i64)
  ([] ++ List.take (cuR (a.fst.getD ((0 : Nat) + Int.toNat (0 : Int)) (0 : Int)) (List.take ((nCellsR (newR (IntKind.i64.wrap ((1 : Int) + IntKind.i64.wrap ((IntKind.u64.wrap
  n).tmod (4 : Int))))).fst).fst - (1 : Int)).toNat (List.drop ((0 : Nat) + Int.toNat (1 : Int)) a.fst))).fst.length (List.drop (0 : Nat) (cuR (a.fst.getD ((0 : Nat) + Int.toNat (0
  : Int)) (0 : Int)) (List.take ((nCellsR (newR (IntKind.i64.wrap ((1 : Int) + IntKind.i64.wrap ((IntKind.u64.wrap n).tmod (4 : Int))))).fst).fst - (1 : Int)).toNat (List.drop ((0 :
  Nat) + Int.toNat (1 : Int)) a.fst))).fst))] [HObj.row Md.rw ty2 (K.int IntKind.i64) a.fst, HObj.row Md.rw ty2 (K.int IntKind.i64) a_1.fst, HObj.dead, HObj.row Md.rw ty2 (K.int
  IntKind.i64) ([] ++ List.take a.fst.length (List.drop (0 : Nat) a.fst)), HObj.dead, HObj.row Md.rw ty2 (K.int IntKind.i64) ([] ++ List.take a_1.fst.length (List.drop (0 : Nat)
  a_1.fst)), HObj.row Md.rw ty2 (K.int IntKind.i64) (y.fst.set ((0 : Nat) + x.fst.toNat) (-7 : Int)), HObj.row Md.rw ty2 (K.int IntKind.i64) a_3.fst, HObj.row Md.rw ty2 (K.int
  IntKind.i64) (cuR (a.fst.getD ((0 : Nat) + Int.toNat (0 : Int)) (0 : Int)) (List.take ((nCellsR (newR (IntKind.i64.wrap ((1 : Int) + IntKind.i64.wrap ((IntKind.u64.wrap n).tmod (4
  : Int))))).fst).fst - (1 : Int)).toNat (List.drop ((0 : Nat) + Int.toNat (1 : Int)) a.fst))).fst, HObj.row Md.rw ty2 (K.int IntKind.i64) (cuR (a.fst.getD ((0 : Nat) + Int.toNat (0
  : Int)) (0 : Int)) (List.take ((nCellsR (newR (IntKind.i64.wrap ((1 : Int) + IntKind.i64.wrap ((IntKind.u64.wrap n).tmod (4 : Int))))).fst).fst - (1 : Int)).toNat (List.drop ((0 :
  Nat) + Int.toNat (1 : Int)) a.fst))).fst, HObj.dead, HObj.row Md.rw ty2 (K.int IntKind.i64) ([] ++ List.take a_3.fst.length (List.drop (0 : Nat) a_3.fst)), HObj.dead, HObj.row
  Md.rw ty2 (K.int IntKind.i64) ([] ++ List.take (cuR (a.fst.getD ((0 : Nat) + Int.toNat (0 : Int)) (0 : Int)) (List.take ((nCellsR (newR (IntKind.i64.wrap ((1 : Int) +
  IntKind.i64.wrap ((IntKind.u64.wrap n).tmod (4 : Int))))).fst).fst - (1 : Int)).toNat (List.drop ((0 : Nat) + Int.toNat (1 : Int)) a.fst))).fst.length (List.drop (0 : Nat) (cuR
  (a.fst.getD ((0 : Nat) + Int.toNat (0 : Int)) (0 : Int)) (List.take ((nCellsR (newR (IntKind.i64.wrap ((1 : Int) + IntKind.i64.wrap ((IntKind.u64.wrap n).tmod (4 :
  Int))))).fst).fst - (1 : Int)).toNat (List.drop ((0 : Nat) + Int.toNat (1 : Int)) a.fst))).fst))] ∧ I (IntKind.i64.wrap (x.fst + (1 : Int)), ()) (y.fst.set ((0 : Nat) +
  x.fst.toNat) (-7 : Int), ()) ∧ μ (IntKind.i64.wrap (x.fst + (1 : Int)), ()) (y.fst.set ((0 : Nat) + x.fst.toNat) (-7 : Int), ()) < μ x y) (HIs [HObj.row Md.rw ty2 (K.int
  IntKind.i64) a.fst, HObj.row Md.rw ty2 (K.int IntKind.i64) a_1.fst, HObj.dead, HObj.row Md.rw ty2 (K.int IntKind.i64) ([] ++ List.take a.fst.length (List.drop (0 : Nat) a.fst)),
  HObj.dead, HObj.row Md.rw ty2 (K.int IntKind.i64) ([] ++ List.take a_1.fst.length (List.drop (0 : Nat) a_1.fst)), HObj.row Md.rw ty2 (K.int IntKind.i64) y.fst, HObj.row Md.rw ty2
  (K.int IntKind.i64) a_3.fst, HObj.row Md.rw ty2 (K.int IntKind.i64) (cuR (a.fst.getD ((0 : Nat) + Int.toNat (0 : Int)) (0 : Int)) (List.take ((nCellsR (newR (IntKind.i64.wrap ((1
  : Int) + IntKind.i64.wrap ((IntKind.u64.wrap n).tmod (4 : Int))))).fst).fst - (1 : Int)).toNat (List.drop ((0 : Nat) + Int.toNat (1 : Int)) a.fst))).fst, HObj.row Md.rw ty2 (K.int
  IntKind.i64) (cuR (a.fst.getD ((0 : Nat) + Int.toNat (0 : Int)) (0 : Int)) (List.take ((nCellsR (newR (IntKind.i64.wrap ((1 : Int) + IntKind.i64.wrap ((IntKind.u64.wrap n).tmod (4
  : Int))))).fst).fst - (1 : Int)).toNat (List.drop ((0 : Nat) + Int.toNat (1 : Int)) a.fst))).fst, HObj.dead, HObj.row Md.rw ty2 (K.int IntKind.i64) ([] ++ List.take a_3.fst.length
  (List.drop (0 : Nat) a_3.fst)), HObj.dead, HObj.row Md.rw ty2 (K.int IntKind.i64) ([] ++ List.take (cuR (a.fst.getD ((0 : Nat) + Int.toNat (0 : Int)) (0 : Int)) (List.take
  ((nCellsR (newR (IntKind.i64.wrap ((1 : Int) + IntKind.i64.wrap ((IntKind.u64.wrap n).tmod (4 : Int))))).fst).fst - (1 : Int)).toNat (List.drop ((0 : Nat) + Int.toNat (1 : Int))
  a.fst))).fst.length (List.drop (0 : Nat) (cuR (a.fst.getD ((0 : Nat) + Int.toNat (0 : Int)) (0 : Int)) (List.take ((nCellsR (newR (IntKind.i64.wrap ((1 : Int) + IntKind.i64.wrap
  ((IntKind.u64.wrap n).tmod (4 : Int))))).fst).fst - (1 : Int)).toNat (List.drop ((0 : Nat) + Int.toNat (1 : Int)) a.fst))).fst))] [HObj.row Md.rw ty2 (K.int IntKind.i64) a.fst,
  HObj.row Md.rw ty2 (K.int IntKind.i64) a_1.fst, HObj.dead, HObj.row Md.rw ty2 (K.int IntKind.i64) ([] ++ List.take a.fst.length (List.drop (0 : Nat) a.fst)), HObj.dead, HObj.row
  Md.rw ty2 (K.int IntKind.i64) ([] ++ List.take a_1.fst.length (List.drop (0 : Nat) a_1.fst)), HObj.row Md.rw ty2 (K.int IntKind.i64) y.fst, HObj.row Md.rw ty2 (K.int IntKind.i64)
  a_3.fst, HObj.row Md.rw ty2 (K.int IntKind.i64) (cuR (a.fst.getD ((0 : Nat) + Int.toNat (0 : Int)) (0 : Int)) (List.take ((nCellsR (newR (IntKind.i64.wrap ((1 : Int) +
  IntKind.i64.wrap ((IntKind.u64.wrap n).tmod (4 : Int))))).fst).fst - (1 : Int)).toNat (List.drop ((0 : Nat) + Int.toNat (1 : Int)) a.fst))).fst, HObj.row Md.rw ty2 (K.int
  IntKind.i64) (cuR (a.fst.getD ((0 : Nat) + Int.toNat (0 : Int)) (0 : Int)) (List.take ((nCellsR (newR (IntKind.i64.wrap ((1 : Int) + IntKind.i64.wrap ((IntKind.u64.wrap n).tmod (4
  : Int))))).fst).fst - (1 : Int)).toNat (List.drop ((0 : Nat) + Int.toNat (1 : Int)) a.fst))).fst, HObj.dead, HObj.row Md.rw ty2 (K.int IntKind.i64) ([] ++ List.take a_3.fst.length
  (List.drop (0 : Nat) a_3.fst)), HObj.dead, HObj.row Md.rw ty2 (K.int IntKind.i64) ([] ++ List.take (cuR (a.fst.getD ((0 : Nat) + Int.toNat (0 : Int)) (0 : Int)) (List.take
  ((nCellsR (newR (IntKind.i64.wrap ((1 : Int) + IntKind.i64.wrap ((IntKind.u64.wrap n).tmod (4 : Int))))).fst).fst - (1 : Int)).toNat (List.drop ((0 : Nat) + Int.toNat (1 : Int))
  a.fst))).fst.length (List.drop (0 : Nat) (cuR (a.fst.getD ((0 : Nat) + Int.toNat (0 : Int)) (0 : Int)) (List.take ((nCellsR (newR (IntKind.i64.wrap ((1 : Int) + IntKind.i64.wrap
  ((IntKind.u64.wrap n).tmod (4 : Int))))).fst).fst - (1 : Int)).toNat (List.drop ((0 : Nat) + Int.toNat (1 : Int)) a.fst))).fst))] ∧ ∃ (I : Int × Unit → List Int × Unit → Prop), ∃
  (μ : Int × Unit → List Int × Unit → Nat), I ((0 : Int), ()) ((cuR (a.fst.getD ((0 : Nat) + Int.toNat (0 : Int)) (0 : Int)) (List.take ((nCellsR (newR (IntKind.i64.wrap ((1 : Int)
  + IntKind.i64.wrap ((IntKind.u64.wrap n).tmod (4 : Int))))).fst).fst - (1 : Int)).toNat (List.drop ((0 : Nat) + Int.toNat (1 : Int)) a.fst))).fst, ()) ∧ ∀ (x : Int × Unit) (y_1 :
  List Int × Unit), I x y_1 → ∀ (a_16 : Bool), a_16 = decide (x.fst < (↑(cuR (a.fst.getD ((0 : Nat) + Int.toNat (0 : Int)) (0 : Int)) (List.take ((nCellsR (newR (IntKind.i64.wrap
  ((1 : Int) + IntKind.i64.wrap ((IntKind.u64.wrap n).tmod (4 : Int))))).fst).fst - (1 : Int)).toNat (List.drop ((0 : Nat) + Int.toNat (1 : Int)) a.fst))).fst.length : Int)) → Br
  a_16 (∃ (h : (0 : Int) ≤ x.fst ∧ x.fst < (↑(cuR (a.fst.getD ((0 : Nat) + Int.toNat (0 : Int)) (0 : Int)) (List.take ((nCellsR (newR (IntKind.i64.wrap ((1 : Int) + IntKind.i64.wrap
  ((IntKind.u64.wrap n).tmod (4 : Int))))).fst).fst - (1 : Int)).toNat (List.drop ((0 : Nat) + Int.toNat (1 : Int)) a.fst))).fst.length : Int)), HIs [HObj.row Md.rw ty2 (K.int
  IntKind.i64) a.fst, HObj.row Md.rw ty2 (K.int IntKind.i64) a_1.fst, HObj.dead, HObj.row Md.rw ty2 (K.int IntKind.i64) ([] ++ List.take a.fst.length (List.drop (0 : Nat) a.fst)),
  HObj.dead, HObj.row Md.rw ty2 (K.int IntKind.i64) ([] ++ List.take a_1.fst.length (List.drop (0 : Nat) a_1.fst)), HObj.row Md.rw ty2 (K.int IntKind.i64) y.fst, HObj.row Md.rw ty2
  (K.int IntKind.i64) a_3.fst, HObj.row Md.rw ty2 (K.int IntKind.i64) (y_1.fst.set ((0 : Nat) + x.fst.toNat) (-7 : Int)), HObj.row Md.rw ty2 (K.int IntKind.i64) (cuR (a.fst.getD ((0
  : Nat) + Int.toNat (0 : Int)) (0 : Int)) (List.take ((nCellsR (newR (IntKind.i64.wrap ((1 : Int) + IntKind.i64.wrap ((IntKind.u64.wrap n).tmod (4 : Int))))).fst).fst - (1 :
  Int)).toNat (List.drop ((0 : Nat) + Int.toNat (1 : Int)) a.fst))).fst, HObj.dead, HObj.row Md.rw ty2 (K.int IntKind.i64) ([] ++ List.take a_3.fst.length (List.drop (0 : Nat)
  a_3.fst)), HObj.dead, HObj.row Md.rw ty2 (K.int IntKind.i64) ([] ++ List.take (cuR (a.fst.getD ((0 : Nat) + Int.toNat (0 : Int)) (0 : Int)) (List.take ((nCellsR (newR
  (IntKind.i64.wrap ((1 : Int) + IntKind.i64.wrap ((IntKind.u64.wrap n).tmod (4 : Int))))).fst).fst - (1 : Int)).toNat (List.drop ((0 : Nat) + Int.toNat (1 : Int))
  a.fst))).fst.length (List.drop (0 : Nat) (cuR (a.fst.getD ((0 : Nat) + Int.toNat (0 : Int)) (0 : Int)) (List.take ((nCellsR (newR (IntKind.i64.wrap ((1 : Int) + IntKind.i64.wrap
  ((IntKind.u64.wrap n).tmod (4 : Int))))).fst).fst - (1 : Int)).toNat (List.drop ((0 : Nat) + Int.toNat (1 : Int)) a.fst))).fst))] [HObj.row Md.rw ty2 (K.int IntKind.i64) a.fst,
  HObj.row Md.rw ty2 (K.int IntKind.i64) a_1.fst, HObj.dead, HObj.row Md.rw ty2 (K.int IntKind.i64) ([] ++ List.take a.fst.length (List.drop (0 : Nat) a.fst)), HObj.dead, HObj.row
  Md.rw ty2 (K.int IntKind.i64) ([] ++ List.take a_1.fst.length (List.drop (0 : Nat) a_1.fst)), HObj.row Md.rw ty2 (K.int IntKind.i64) y.fst, HObj.row Md.rw ty2 (K.int IntKind.i64)
  a_3.fst, HObj.row Md.rw ty2 (K.int IntKind.i64) (y_1.fst.set ((0 : Nat) + x.fst.toNat) (-7 : Int)), HObj.row Md.rw ty2 (K.int IntKind.i64) (cuR (a.fst.getD ((0 : Nat) + Int.toNat
  (0 : Int)) (0 : Int)) (List.take ((nCellsR (newR (IntKind.i64.wrap ((1 : Int) + IntKind.i64.wrap ((IntKind.u64.wrap n).tmod (4 : Int))))).fst).fst - (1 : Int)).toNat (List.drop
  ((0 : Nat) + Int.toNat (1 : Int)) a.fst))).fst, HObj.dead, HObj.row Md.rw ty2 (K.int IntKind.i64) ([] ++ List.take a_3.fst.length (List.drop (0 : Nat) a_3.fst)), HObj.dead,
  HObj.row Md.rw ty2 (K.int IntKind.i64) ([] ++ List.take (cuR (a.fst.getD ((0 : Nat) + Int.toNat (0 : Int)) (0 : Int)) (List.take ((nCellsR (newR (IntKind.i64.wrap ((1 : Int) +
  IntKind.i64.wrap ((IntKind.u64.wrap n).tmod (4 : Int))))).fst).fst - (1 : Int)).toNat (List.drop ((0 : Nat) + Int.toNat (1 : Int)) a.fst))).fst.length (List.drop (0 : Nat) (cuR
  (a.fst.getD ((0 : Nat) + Int.toNat (0 : Int)) (0 : Int)) (List.take ((nCellsR (newR (IntKind.i64.wrap ((1 : Int) + IntKind.i64.wrap ((IntKind.u64.wrap n).tmod (4 :
  Int))))).fst).fst - (1 : Int)).toNat (List.drop ((0 : Nat) + Int.toNat (1 : Int)) a.fst))).fst))] ∧ I (IntKind.i64.wrap (x.fst + (1 : Int)), ()) (y_1.fst.set ((0 : Nat) +
  x.fst.toNat) (-7 : Int), ()) ∧ μ (IntKind.i64.wrap (x.fst + (1 : Int)), ()) (y_1.fst.set ((0 : Nat) + x.fst.toNat) (-7 : Int), ()) < μ x y_1) (∃ (h : a_2.fst.length = y.fst.length
  ∧ (y.fst.length + (4 : Nat)) * (8 : Nat) ≤ (140737488355328 : Nat)), ∃ (h : (cuR (a.fst.getD ((0 : Nat) + Int.toNat (0 : Int)) (0 : Int)) (List.take ((nCellsR (newR
  (IntKind.i64.wrap ((1 : Int) + IntKind.i64.wrap ((IntKind.u64.wrap n).tmod (4 : Int))))).fst).fst - (1 : Int)).toNat (List.drop ((0 : Nat) + Int.toNat (1 : Int))
  a.fst))).fst.length = y_1.fst.length ∧ (y_1.fst.length + (4 : Nat)) * (8 : Nat) ≤ (140737488355328 : Nat)), HIs [HObj.row Md.rw ty2 (K.int IntKind.i64) a.fst, HObj.row Md.rw ty2
  (K.int IntKind.i64) a_1.fst, HObj.dead, HObj.row Md.rw ty2 (K.int IntKind.i64) ([] ++ List.take a.fst.length (List.drop (0 : Nat) a.fst)), HObj.dead, HObj.row Md.rw ty2 (K.int
  IntKind.i64) ([] ++ List.take a_1.fst.length (List.drop (0 : Nat) a_1.fst)), HObj.dead, HObj.row Md.rw ty2 (K.int IntKind.i64) a_3.fst, HObj.dead, HObj.row Md.rw ty2 (K.int
  IntKind.i64) (cuR (a.fst.getD ((0 : Nat) + Int.toNat (0 : Int)) (0 : Int)) (List.take ((nCellsR (newR (IntKind.i64.wrap ((1 : Int) + IntKind.i64.wrap ((IntKind.u64.wrap n).tmod (4
  : Int))))).fst).fst - (1 : Int)).toNat (List.drop ((0 : Nat) + Int.toNat (1 : Int)) a.fst))).fst, HObj.dead, HObj.row Md.rw ty2 (K.int IntKind.i64) ([] ++ List.take a_3.fst.length
  (List.drop (0 : Nat) a_3.fst)), HObj.dead, HObj.row Md.rw ty2 (K.int IntKind.i64) ([] ++ List.take (cuR (a.fst.getD ((0 : Nat) + Int.toNat (0 : Int)) (0 : Int)) (List.take
  ((nCellsR (newR (IntKind.i64.wrap ((1 : Int) + IntKind.i64.wrap ((IntKind.u64.wrap n).tmod (4 : Int))))).fst).fst - (1 : Int)).toNat (List.drop ((0 : Nat) + Int.toNat (1 : Int))
  a.fst))).fst.length (List.drop (0 : Nat) (cuR (a.fst.getD ((0 : Nat) + Int.toNat (0 : Int)) (0 : Int)) (List.take ((nCellsR (newR (IntKind.i64.wrap ((1 : Int) + IntKind.i64.wrap
  ((IntKind.u64.wrap n).tmod (4 : Int))))).fst).fst - (1 : Int)).toNat (List.drop ((0 : Nat) + Int.toNat (1 : Int)) a.fst))).fst)), HObj.row Md.rw ty2 (K.int IntKind.i64) [(-8 :
  Int), (-8 : Int), (-8 : Int), (-8 : Int)], HObj.row Md.rw ty2 (K.int IntKind.i64) (y.fst ++ [(-8 : Int), (-8 : Int), (-8 : Int), (-8 : Int)]), HObj.row Md.rw ty2 (K.int
  IntKind.i64) [(-8 : Int), (-8 : Int), (-8 : Int), (-8 : Int)], HObj.row Md.rw ty2 (K.int IntKind.i64) (y_1.fst ++ [(-8 : Int), (-8 : Int), (-8 : Int), (-8 : Int)])] [HObj.row
  Md.rw ty2 (K.int IntKind.i64) a.fst, HObj.row Md.rw ty2 (K.int IntKind.i64) a_1.fst, HObj.dead, HObj.row Md.rw ty2 (K.int IntKind.i64) ([] ++ List.take a.fst.length (List.drop (0
  : Nat) a.fst)), HObj.dead, HObj.row Md.rw ty2 (K.int IntKind.i64) ([] ++ List.take a_1.fst.length (List.drop (0 : Nat) a_1.fst)), HObj.dead, HObj.row Md.rw ty2 (K.int IntKind.i64)
  a_3.fst, HObj.dead, HObj.row Md.rw ty2 (K.int IntKind.i64) (cuR (a.fst.getD ((0 : Nat) + Int.toNat (0 : Int)) (0 : Int)) (List.take ((nCellsR (newR (IntKind.i64.wrap ((1 : Int) +
  IntKind.i64.wrap ((IntKind.u64.wrap n).tmod (4 : Int))))).fst).fst - (1 : Int)).toNat (List.drop ((0 : Nat) + Int.toNat (1 : Int)) a.fst))).fst, HObj.dead, HObj.row Md.rw ty2
  (K.int IntKind.i64) ([] ++ List.take a_3.fst.length (List.drop (0 : Nat) a_3.fst)), HObj.dead, HObj.row Md.rw ty2 (K.int IntKind.i64) ([] ++ List.take (cuR (a.fst.getD ((0 : Nat)
  + Int.toNat (0 : Int)) (0 : Int)) (List.take ((nCellsR (newR (IntKind.i64.wrap ((1 : Int) + IntKind.i64.wrap ((IntKind.u64.wrap n).tmod (4 : Int))))).fst).fst - (1 : Int)).toNat
  (List.drop ((0 : Nat) + Int.toNat (1 : Int)) a.fst))).fst.length (List.drop (0 : Nat) (cuR (a.fst.getD ((0 : Nat) + Int.toNat (0 : Int)) (0 : Int)) (List.take ((nCellsR (newR
  (IntKind.i64.wrap ((1 : Int) + IntKind.i64.wrap ((IntKind.u64.wrap n).tmod (4 : Int))))).fst).fst - (1 : Int)).toNat (List.drop ((0 : Nat) + Int.toNat (1 : Int)) a.fst))).fst)),
  HObj.row Md.rw ty2 (K.int IntKind.i64) [(-8 : Int), (-8 : Int), (-8 : Int), (-8 : Int)], HObj.row Md.rw ty2 (K.int IntKind.i64) (y.fst ++ [(-8 : Int), (-8 : Int), (-8 : Int), (-8
  : Int)]), HObj.row Md.rw ty2 (K.int IntKind.i64) [(-8 : Int), (-8 : Int), (-8 : Int), (-8 : Int)], HObj.row Md.rw ty2 (K.int IntKind.i64) (y_1.fst ++ [(-8 : Int), (-8 : Int), (-8
  : Int), (-8 : Int)])] ∧ ∃ (I : Int × Unit → List Int × Unit → Prop), ∃ (μ : Int × Unit → List Int × Unit → Nat), I ((0 : Int), ()) (a.fst, ()) ∧ ∀ (x : Int × Unit) (y_2 : List Int
  × Unit), I x y_2 → ∀ (a_17 : Bool), a_17 = decide (x.fst < (↑a.fst.length : Int)) → Br a_17 (∃ (h : (0 : Int) ≤ x.fst ∧ x.fst < (↑a.fst.length : Int)), HIs [HObj.row Md.rw ty2
  (K.int IntKind.i64) (y_2.fst.set ((0 : Nat) + x.fst.toNat) (0 : Int)), HObj.row Md.rw ty2 (K.int IntKind.i64) a_1.fst, HObj.dead, HObj.row Md.rw ty2 (K.int IntKind.i64) ([] ++
  List.take a.fst.length (List.drop (0 : Nat) a.fst)), HObj.dead, HObj.row Md.rw ty2 (K.int IntKind.i64) ([] ++ List.take a_1.fst.length (List.drop (0 : Nat) a_1.fst)), HObj.dead,
  HObj.row Md.rw ty2 (K.int IntKind.i64) a_3.fst, HObj.dead, HObj.row Md.rw ty2 (K.int IntKind.i64) (cuR (a.fst.getD ((0 : Nat) + Int.toNat (0 : Int)) (0 : Int)) (List.take
  ((nCellsR (newR (IntKind.i64.wrap ((1 : Int) + IntKind.i64.wrap ((IntKind.u64.wrap n).tmod (4 : Int))))).fst).fst - (1 : Int)).toNat (List.drop ((0 : Nat) + Int.toNat (1 : Int))
  a.fst))).fst, HObj.dead, HObj.row Md.rw ty2 (K.int IntKind.i64) ([] ++ List.take a_3.fst.length (List.drop (0 : Nat) a_3.fst)), HObj.dead, HObj.row Md.rw ty2 (K.int IntKind.i64)
  ([] ++ List.take (cuR (a.fst.getD ((0 : Nat) + Int.toNat (0 : Int)) (0 : Int)) (List.take ((nCellsR (newR (IntKind.i64.wrap ((1 : Int) + IntKind.i64.wrap ((IntKind.u64.wrap
  n).tmod (4 : Int))))).fst).fst - (1 : Int)).toNat (List.drop ((0 : Nat) + Int.toNat (1 : Int)) a.fst))).fst.length (List.drop (0 : Nat) (cuR (a.fst.getD ((0 : Nat) + Int.toNat (0
  : Int)) (0 : Int)) (List.take ((nCellsR (newR (IntKind.i64.wrap ((1 : Int) + IntKind.i64.wrap ((IntKind.u64.wrap n).tmod (4 : Int))))).fst).fst - (1 : Int)).toNat (List.drop ((0 :
  Nat) + Int.toNat (1 : Int)) a.fst))).fst)), HObj.row Md.rw ty2 (K.int IntKind.i64) [(-8 : Int), (-8 : Int), (-8 : Int), (-8 : Int)], HObj.row Md.rw ty2 (K.int IntKind.i64) (y.fst
  ++ [(-8 : Int), (-8 : Int), (-8 : Int), (-8 : Int)]), HObj.row Md.rw ty2 (K.int IntKind.i64) [(-8 : Int), (-8 : Int), (-8 : Int), (-8 : Int)], HObj.row Md.rw ty2 (K.int
  IntKind.i64) (y_1.fst ++ [(-8 : Int), (-8 : Int), (-8 : Int), (-8 : Int)])] [HObj.row Md.rw ty2 (K.int IntKind.i64) (y_2.fst.set ((0 : Nat) + x.fst.toNat) (0 : Int)), HObj.row
  Md.rw ty2 (K.int IntKind.i64) a_1.fst, HObj.dead, HObj.row Md.rw ty2 (K.int IntKind.i64) ([] ++ List.take a.fst.length (List.drop (0 : Nat) a.fst)), HObj.dead, HObj.row Md.rw ty2
  (K.int IntKind.i64) ([] ++ List.take a_1.fst.length (List.drop (0 : Nat) a_1.fst)), HObj.dead, HObj.row Md.rw ty2 (K.int IntKind.i64) a_3.fst, HObj.dead, HObj.row Md.rw ty2 (K.int
  IntKind.i64) (cuR (a.fst.getD ((0 : Nat) + Int.toNat (0 : Int)) (0 : Int)) (List.take ((nCellsR (newR (IntKind.i64.wrap ((1 : Int) + IntKind.i64.wrap ((IntKind.u64.wrap n).tmod (4
  : Int))))).fst).fst - (1 : Int)).toNat (List.drop ((0 : Nat) + Int.toNat (1 : Int)) a.fst))).fst, HObj.dead, HObj.row Md.rw ty2 (K.int IntKind.i64) ([] ++ List.take a_3.fst.length
  (List.drop (0 : Nat) a_3.fst)), HObj.dead, HObj.row Md.rw ty2 (K.int IntKind.i64) ([] ++ List.take (cuR (a.fst.getD ((0 : Nat) + Int.toNat (0 : Int)) (0 : Int)) (List.take
  ((nCellsR (newR (IntKind.i64.wrap ((1 : Int) + IntKind.i64.wrap ((IntKind.u64.wrap n).tmod (4 : Int))))).fst).fst - (1 : Int)).toNat (List.drop ((0 : Nat) + Int.toNat (1 : Int))
  a.fst))).fst.length (List.drop (0 : Nat) (cuR (a.fst.getD ((0 : Nat) + Int.toNat (0 : Int)) (0 : Int)) (List.take ((nCellsR (newR (IntKind.i64.wrap ((1 : Int) + IntKind.i64.wrap
  ((IntKind.u64.wrap n).tmod (4 : Int))))).fst).fst - (1 : Int)).toNat (List.drop ((0 : Nat) + Int.toNat (1 : Int)) a.fst))).fst)), HObj.row Md.rw ty2 (K.int IntKind.i64) [(-8 :
  Int), (-8 : Int), (-8 : Int), (-8 : Int)], HObj.row Md.rw ty2 (K.int IntKind.i64) (y.fst ++ [(-8 : Int), (-8 : Int), (-8 : Int), (-8 : Int)]), HObj.row Md.rw ty2 (K.int
  IntKind.i64) [(-8 : Int), (-8 : Int), (-8 : Int), (-8 : Int)], HObj.row Md.rw ty2 (K.int IntKind.i64) (y_1.fst ++ [(-8 : Int), (-8 : Int), (-8 : Int), (-8 : Int)])] ∧ I
  (IntKind.i64.wrap (x.fst + (1 : Int)), ()) (y_2.fst.set ((0 : Nat) + x.fst.toNat) (0 : Int), ()) ∧ μ (IntKind.i64.wrap (x.fst + (1 : Int)), ()) (y_2.fst.set ((0 : Nat) +
  x.fst.toNat) (0 : Int), ()) < μ x y_2) (∃ (h : (0 : Int) ≤ (0 : Int) ∧ (0 : Int) ≤ (nCellsR (newR (IntKind.i64.wrap ((1 : Int) + IntKind.i64.wrap ((IntKind.u64.wrap n).tmod (4 :
  Int))))).fst).fst ∧ (nCellsR (newR (IntKind.i64.wrap ((1 : Int) + IntKind.i64.wrap ((IntKind.u64.wrap n).tmod (4 : Int))))).fst).fst ≤ (↑a.fst.length : Int)), ∃ (h : (0 : Int) ≤
  (0 : Int) ∧ (0 : Int) ≤ (nEdgesR (newR (IntKind.i64.wrap ((1 : Int) + IntKind.i64.wrap ((IntKind.u64.wrap n).tmod (4 : Int))))).fst).fst ∧ (nEdgesR (newR (IntKind.i64.wrap ((1 :
  Int) + IntKind.i64.wrap ((IntKind.u64.wrap n).tmod (4 : Int))))).fst).fst ≤ (↑a_1.fst.length : Int)), ∃ (h : WAll (newR (IntKind.i64.wrap ((1 : Int) + IntKind.i64.wrap
  ((IntKind.u64.wrap n).tmod (4 : Int))))).fst (List.take ((nCellsR (newR (IntKind.i64.wrap ((1 : Int) + IntKind.i64.wrap ((IntKind.u64.wrap n).tmod (4 : Int))))).fst).fst - (0 :
  Int)).toNat (List.drop ((0 : Nat) + Int.toNat (0 : Int)) y_2.fst)) (List.take ((nEdgesR (newR (IntKind.i64.wrap ((1 : Int) + IntKind.i64.wrap ((IntKind.u64.wrap n).tmod (4 :
  Int))))).fst).fst - (0 : Int)).toNat (List.drop ((0 : Nat) + Int.toNat (0 : Int)) a_1.fst))), ∀ (a_18 : List Int × Int × Unit), a_18 = sAllR (newR (IntKind.i64.wrap ((1 : Int) +
  IntKind.i64.wrap ((IntKind.u64.wrap n).tmod (4 : Int))))).fst (List.take ((nCellsR (newR (IntKind.i64.wrap ((1 : Int) + IntKind.i64.wrap ((IntKind.u64.wrap n).tmod (4 :
  Int))))).fst).fst - (0 : Int)).toNat (List.drop ((0 : Nat) + Int.toNat (0 : Int)) y_2.fst)) (List.take ((nEdgesR (newR (IntKind.i64.wrap ((1 : Int) + IntKind.i64.wrap
  ((IntKind.u64.wrap n).tmod (4 : Int))))).fst).fst - (0 : Int)).toNat (List.drop ((0 : Nat) + Int.toNat (0 : Int)) a_1.fst)) → HIs [HObj.row Md.rw ty2 (K.int IntKind.i64) y_2.fst,
  HObj.row Md.rw ty2 (K.int IntKind.i64) a_1.fst, HObj.dead, HObj.row Md.rw ty2 (K.int IntKind.i64) ([] ++ List.take a.fst.length (List.drop (0 : Nat) a.fst)), HObj.dead, HObj.row
  Md.rw ty2 (K.int IntKind.i64) ([] ++ List.take a_1.fst.length (List.drop (0 : Nat) a_1.fst)), HObj.dead, HObj.row Md.rw ty2 (K.int IntKind.i64) a_3.fst, HObj.dead, HObj.row Md.rw
  ty2 (K.int IntKind.i64) (cuR (a.fst.getD ((0 : Nat) + Int.toNat (0 : Int)) (0 : Int)) (List.take ((nCellsR (newR (IntKind.i64.wrap ((1 : Int) + IntKind.i64.wrap ((IntKind.u64.wrap
  n).tmod (4 : Int))))).fst).fst - (1 : Int)).toNat (List.drop ((0 : Nat) + Int.toNat (1 : Int)) a.fst))).fst, HObj.dead, HObj.row Md.rw ty2 (K.int IntKind.i64) ([] ++ List.take
  a_3.fst.length (List.drop (0 : Nat) a_3.fst)), HObj.dead, HObj.row Md.rw ty2 (K.int IntKind.i64) ([] ++ List.take (cuR (a.fst.getD ((0 : Nat) + Int.toNat (0 : Int)) (0 : Int))
  (List.take ((nCellsR (newR (IntKind.i64.wrap ((1 : Int) + IntKind.i64.wrap ((IntKind.u64.wrap n).tmod (4 : Int))))).fst).fst - (1 : Int)).toNat (List.drop ((0 : Nat) + Int.toNat
  (1 : Int)) a.fst))).fst.length (List.drop (0 : Nat) (cuR (a.fst.getD ((0 : Nat) + Int.toNat (0 : Int)) (0 : Int)) (List.take ((nCellsR (newR (IntKind.i64.wrap ((1 : Int) +
  IntKind.i64.wrap ((IntKind.u64.wrap n).tmod (4 : Int))))).fst).fst - (1 : Int)).toNat (List.drop ((0 : Nat) + Int.toNat (1 : Int)) a.fst))).fst)), HObj.row Md.rw ty2 (K.int
  IntKind.i64) [(-8 : Int), (-8 : Int), (-8 : Int), (-8 : Int)], HObj.row Md.rw ty2 (K.int IntKind.i64) (y.fst ++ [(-8 : Int), (-8 : Int), (-8 : Int), (-8 : Int)]), HObj.row Md.rw
  ty2 (K.int IntKind.i64) [(-8 : Int), (-8 : Int), (-8 : Int), (-8 : Int)], HObj.row Md.rw ty2 (K.int IntKind.i64) (y_1.fst ++ [(-8 : Int), (-8 : Int), (-8 : Int), (-8 : Int)]),
  HObj.row Md.rw ty2 (K.int IntKind.i64) a_18.fst] [HObj.row Md.rw ty2 (K.int IntKind.i64) y_2.fst, HObj.row Md.rw ty2 (K.int IntKind.i64) a_1.fst, HObj.dead, HObj.row Md.rw ty2
  (K.int IntKind.i64) ([] ++ List.take a.fst.length (List.drop (0 : Nat) a.fst)), HObj.dead, HObj.row Md.rw ty2 (K.int IntKind.i64) ([] ++ List.take a_1.fst.length (List.drop (0 :
  Nat) a_1.fst)), HObj.dead, HObj.row Md.rw ty2 (K.int IntKind.i64) a_3.fst, HObj.dead, HObj.row Md.rw ty2 (K.int IntKind.i64) (cuR (a.fst.getD ((0 : Nat) + Int.toNat (0 : Int)) (0
  : Int)) (List.take ((nCellsR (newR (IntKind.i64.wrap ((1 : Int) + IntKind.i64.wrap ((IntKind.u64.wrap n).tmod (4 : Int))))).fst).fst - (1 : Int)).toNat (List.drop ((0 : Nat) +
  Int.toNat (1 : Int)) a.fst))).fst, HObj.dead, HObj.row Md.rw ty2 (K.int IntKind.i64) ([] ++ List.take a_3.fst.length (List.drop (0 : Nat) a_3.fst)), HObj.dead, HObj.row Md.rw ty2
  (K.int IntKind.i64) ([] ++ List.take (cuR (a.fst.getD ((0 : Nat) + Int.toNat (0 : Int)) (0 : Int)) (List.take ((nCellsR (newR (IntKind.i64.wrap ((1 : Int) + IntKind.i64.wrap
  ((IntKind.u64.wrap n).tmod (4 : Int))))).fst).fst - (1 : Int)).toNat (List.drop ((0 : Nat) + Int.toNat (1 : Int)) a.fst))).fst.length (List.drop (0 : Nat) (cuR (a.fst.getD ((0 :
  Nat) + Int.toNat (0 : Int)) (0 : Int)) (List.take ((nCellsR (newR (IntKind.i64.wrap ((1 : Int) + IntKind.i64.wrap ((IntKind.u64.wrap n).tmod (4 : Int))))).fst).fst - (1 :
  Int)).toNat (List.drop ((0 : Nat) + Int.toNat (1 : Int)) a.fst))).fst)), HObj.row Md.rw ty2 (K.int IntKind.i64) [(-8 : Int), (-8 : Int), (-8 : Int), (-8 : Int)], HObj.row Md.rw
  ty2 (K.int IntKind.i64) (y.fst ++ [(-8 : Int), (-8 : Int), (-8 : Int), (-8 : Int)]), HObj.row Md.rw ty2 (K.int IntKind.i64) [(-8 : Int), (-8 : Int), (-8 : Int), (-8 : Int)],
  HObj.row Md.rw ty2 (K.int IntKind.i64) (y_1.fst ++ [(-8 : Int), (-8 : Int), (-8 : Int), (-8 : Int)]), HObj.row Md.rw ty2 (K.int IntKind.i64) a_18.fst] ∧ ∃ (I : Int × Unit → Unit →
  Prop), ∃ (μ : Int × Unit → Unit → Nat), I ((0 : Int), ()) () ∧ ∀ (x : Int × Unit) (y_3 : Unit), I x y_3 → ∀ (a_19 : Bool), a_19 = decide (x.fst < (↑a_18.fst.length : Int)) → Br
  a_19 (∃ (h : (0 : Int) ≤ x.fst ∧ x.fst < (↑a_18.fst.length : Int)), ∀ (a_20 : Bool), a_20 = (a_18.fst.getD ((0 : Nat) + x.fst.toNat) (0 : Int) != (0 : Int)) → Br a_20 (post
  (Bool.false, ())) (HIs [HObj.row Md.rw ty2 (K.int IntKind.i64) y_2.fst, HObj.row Md.rw ty2 (K.int IntKind.i64) a_1.fst, HObj.dead, HObj.row Md.rw ty2 (K.int IntKind.i64) ([] ++
  List.take a.fst.length (List.drop (0 : Nat) a.fst)), HObj.dead, HObj.row Md.rw ty2 (K.int IntKind.i64) ([] ++ List.take a_1.fst.length (List.drop (0 : Nat) a_1.fst)), HObj.dead,
  HObj.row Md.rw ty2 (K.int IntKind.i64) a_3.fst, HObj.dead, HObj.row Md.rw ty2 (K.int IntKind.i64) (cuR (a.fst.getD ((0 : Nat) + Int.toNat (0 : Int)) (0 : Int)) (List.take
  ((nCellsR (newR (IntKind.i64.wrap ((1 : Int) + IntKind.i64.wrap ((IntKind.u64.wrap n).tmod (4 : Int))))).fst).fst - (1 : Int)).toNat (List.drop ((0 : Nat) + Int.toNat (1 : Int))
  a.fst))).fst, HObj.dead, HObj.row Md.rw ty2 (K.int IntKind.i64) ([] ++ List.take a_3.fst.length (List.drop (0 : Nat) a_3.fst)), HObj.dead, HObj.row Md.rw ty2 (K.int IntKind.i64)
  ([] ++ List.take (cuR (a.fst.getD ((0 : Nat) + Int.toNat (0 : Int)) (0 : Int)) (List.take ((nCellsR (newR (IntKind.i64.wrap ((1 : Int) + IntKind.i64.wrap ((IntKind.u64.wrap
  n).tmod (4 : Int))))).fst).fst - (1 : Int)).toNat (List.drop ((0 : Nat) + Int.toNat (1 : Int)) a.fst))).fst.length (List.drop (0 : Nat) (cuR (a.fst.getD ((0 : Nat) + Int.toNat (0
  : Int)) (0 : Int)) (List.take ((nCellsR (newR (IntKind.i64.wrap ((1 : Int) + IntKind.i64.wrap ((IntKind.u64.wrap n).tmod (4 : Int))))).fst).fst - (1 : Int)).toNat (List.drop ((0 :
  Nat) + Int.toNat (1 : Int)) a.fst))).fst)), HObj.row Md.rw ty2 (K.int IntKind.i64) [(-8 : Int), (-8 : Int), (-8 : Int), (-8 : Int)], HObj.row Md.rw ty2 (K.int IntKind.i64) (y.fst
  ++ [(-8 : Int), (-8 : Int), (-8 : Int), (-8 : Int)]), HObj.row Md.rw ty2 (K.int IntKind.i64) [(-8 : Int), (-8 : Int), (-8 : Int), (-8 : Int)], HObj.row Md.rw ty2 (K.int
  IntKind.i64) (y_1.fst ++ [(-8 : Int), (-8 : Int), (-8 : Int), (-8 : Int)]), HObj.row Md.rw ty2 (K.int IntKind.i64) a_18.fst] [HObj.row Md.rw ty2 (K.int IntKind.i64) y_2.fst,
  HObj.row Md.rw ty2 (K.int IntKind.i64) a_1.fst, HObj.dead, HObj.row Md.rw ty2 (K.int IntKind.i64) ([] ++ List.take a.fst.length (List.drop (0 : Nat) a.fst)), HObj.dead, HObj.row
  Md.rw ty2 (K.int IntKind.i64) ([] ++ List.take a_1.fst.length (List.drop (0 : Nat) a_1.fst)), HObj.dead, HObj.row Md.rw ty2 (K.int IntKind.i64) a_3.fst, HObj.dead, HObj.row Md.rw
  ty2 (K.int IntKind.i64) (cuR (a.fst.getD ((0 : Nat) + Int.toNat (0 : Int)) (0 : Int)) (List.take ((nCellsR (newR (IntKind.i64.wrap ((1 : Int) + IntKind.i64.wrap ((IntKind.u64.wrap
  n).tmod (4 : Int))))).fst).fst - (1 : Int)).toNat (List.drop ((0 : Nat) + Int.toNat (1 : Int)) a.fst))).fst, HObj.dead, HObj.row Md.rw ty2 (K.int IntKind.i64) ([] ++ List.take
  a_3.fst.length (List.drop (0 : Nat) a_3.fst)), HObj.dead, HObj.row Md.rw ty2 (K.int IntKind.i64) ([] ++ List.take (cuR (a.fst.getD ((0 : Nat) + Int.toNat (0 : Int)) (0 : Int))
  (List.take ((nCellsR (newR (IntKind.i64.wrap ((1 : Int) + IntKind.i64.wrap ((IntKind.u64.wrap n).tmod (4 : Int))))).fst).fst - (1 : Int)).toNat (List.drop ((0 : Nat) + Int.toNat
  (1 : Int)) a.fst))).fst.length (List.drop (0 : Nat) (cuR (a.fst.getD ((0 : Nat) + Int.toNat (0 : Int)) (0 : Int)) (List.take ((nCellsR (newR (IntKind.i64.wrap ((1 : Int) +
  IntKind.i64.wrap ((IntKind.u64.wrap n).tmod (4 : Int))))).fst).fst - (1 : Int)).toNat (List.drop ((0 : Nat) + Int.toNat (1 : Int)) a.fst))).fst)), HObj.row Md.rw ty2 (K.int
  IntKind.i64) [(-8 : Int), (-8 : Int), (-8 : Int), (-8 : Int)], HObj.row Md.rw ty2 (K.int IntKind.i64) (y.fst ++ [(-8 : Int), (-8 : Int), (-8 : Int), (-8 : Int)]), HObj.row Md.rw
  ty2 (K.int IntKind.i64) [(-8 : Int), (-8 : Int), (-8 : Int), (-8 : Int)], HObj.row Md.rw ty2 (K.int IntKind.i64) (y_1.fst ++ [(-8 : Int), (-8 : Int), (-8 : Int), (-8 : Int)]),
  HObj.row Md.rw ty2 (K.int IntKind.i64) a_18.fst] ∧ I (IntKind.i64.wrap (x.fst + (1 : Int)), ()) () ∧ μ (IntKind.i64.wrap (x.fst + (1 : Int)), ()) () < μ x y_3)) (∀ (a_20 : Bool),
  a_20 = (a_18.snd.fst == (0 : Int)) → Br a_20 (∃ (h : True), ∀ (a_21 : Bool × Unit), a_21 = intsR (List.take a_3.fst.length (List.drop (0 : Nat) a_3.fst)) (List.take ((0 : Nat) +
  (List.take a_3.fst.length (List.drop (0 : Nat) a_3.fst)).length) (List.drop (0 : Nat) ([] ++ List.take a_3.fst.length (List.drop (0 : Nat) a_3.fst)))) → ∀ (a_22 : Bool), a_22 =
  a_21.fst → Br a_22 (∃ (h : True), ∀ (a_23 : Bool × Unit), a_23 = intsR (List.take (cuR (a.fst.getD ((0 : Nat) + Int.toNat (0 : Int)) (0 : Int)) (List.take ((nCellsR (newR
  (IntKind.i64.wrap ((1 : Int) + IntKind.i64.wrap ((IntKind.u64.wrap n).tmod (4 : Int))))).fst).fst - (1 : Int)).toNat (List.drop ((0 : Nat) + Int.toNat (1 : Int))
  a.fst))).fst.length (List.drop (0 : Nat) (cuR (a.fst.getD ((0 : Nat) + Int.toNat (0 : Int)) (0 : Int)) (List.take ((nCellsR (newR (IntKind.i64.wrap ((1 : Int) + IntKind.i64.wrap
  ((IntKind.u64.wrap n).tmod (4 : Int))))).fst).fst - (1 : Int)).toNat (List.drop ((0 : Nat) + Int.toNat (1 : Int)) a.fst))).fst)) (List.take ((0 : Nat) + (List.take (cuR
  (a.fst.getD ((0 : Nat) + Int.toNat (0 : Int)) (0 : Int)) (List.take ((nCellsR (newR (IntKind.i64.wrap ((1 : Int) + IntKind.i64.wrap ((IntKind.u64.wrap n).tmod (4 :
  Int))))).fst).fst - (1 : Int)).toNat (List.drop ((0 : Nat) + Int.toNat (1 : Int)) a.fst))).fst.length (List.drop (0 : Nat) (cuR (a.fst.getD ((0 : Nat) + Int.toNat (0 : Int)) (0 :
  Int)) (List.take ((nCellsR (newR (IntKind.i64.wrap ((1 : Int) + IntKind.i64.wrap ((IntKind.u64.wrap n).tmod (4 : Int))))).fst).fst - (1 : Int)).toNat (List.drop ((0 : Nat) +
  Int.toNat (1 : Int)) a.fst))).fst)).length) (List.drop (0 : Nat) ([] ++ List.take (cuR (a.fst.getD ((0 : Nat) + Int.toNat (0 : Int)) (0 : Int)) (List.take ((nCellsR (newR
  (IntKind.i64.wrap ((1 : Int) + IntKind.i64.wrap ((IntKind.u64.wrap n).tmod (4 : Int))))).fst).fst - (1 : Int)).toNat (List.drop ((0 : Nat) + Int.toNat (1 : Int))
  a.fst))).fst.length (List.drop (0 : Nat) (cuR (a.fst.getD ((0 : Nat) + Int.toNat (0 : Int)) (0 : Int)) (List.take ((nCellsR (newR (IntKind.i64.wrap ((1 : Int) + IntKind.i64.wrap
  ((IntKind.u64.wrap n).tmod (4 : Int))))).fst).fst - (1 : Int)).toNat (List.drop ((0 : Nat) + Int.toNat (1 : Int)) a.fst))).fst)))) → ∀ (a : Bool), a = a_23.fst → Br a (∃ (h :
  True), ∀ (a : Bool × Unit), a = intsR (List.take ((0 : Nat) + (List.take a_1.fst.length (List.drop (0 : Nat) a_1.fst)).length) (List.drop (0 : Nat) ([] ++ List.take a_1.fst.length
  (List.drop (0 : Nat) a_1.fst)))) (List.take a_1.fst.length (List.drop (0 : Nat) a_1.fst)) → ∀ (a_24 : Bool), a_24 = a.fst → Br a_24 (∃ (h : (0 : Int) ≤ IntKind.i64.wrap
  ((↑(y.fst.length + (4 : Nat)) : Int) - (1 : Int)) ∧ IntKind.i64.wrap ((↑(y.fst.length + (4 : Nat)) : Int) - (1 : Int)) < (↑(y.fst.length + (4 : Nat)) : Int)), ∀ (a : Bool), a =
  ((y.fst ++ [(-8 : Int), (-8 : Int), (-8 : Int), (-8 : Int)]).getD ((0 : Nat) + (IntKind.i64.wrap ((↑(y.fst.length + (4 : Nat)) : Int) - (1 : Int))).toNat) (0 : Int) == (-8 : Int))
  → Br a (∃ (h : (0 : Int) ≤ IntKind.i64.wrap ((↑(y_1.fst.length + (4 : Nat)) : Int) - (1 : Int)) ∧ IntKind.i64.wrap ((↑(y_1.fst.length + (4 : Nat)) : Int) - (1 : Int)) <
  (↑(y_1.fst.length + (4 : Nat)) : Int)), ∀ (a : Bool), a = ((y_1.fst ++ [(-8 : Int), (-8 : Int), (-8 : Int), (-8 : Int)]).getD ((0 : Nat) + (IntKind.i64.wrap ((↑(y_1.fst.length +
  (4 : Nat)) : Int) - (1 : Int))).toNat) (0 : Int) == (-8 : Int)) → post (a, ())) (post (Bool.false, ()))) (post (Bool.false, ()))) (post (Bool.false, ()))) (post (Bool.false, ())))
  (post (Bool.false, ()))))))))))))))
theorem Lx_law14_ShareKeeps (ty0 : Nat) (n : Int) (s : List Int) (f : List Int) (h : WLaw3 n s f) (w : KS.wf [.int .i64, .slice (.int .i64), .slice (.int .i64)] (n, s, f, ())) : Fx_law14_ShareKeeps ty0 n s f (fun r => r = yes3 n s f) := by
  obtain ⟨hn, hs, hf⟩ := h
  have hn0 : 0 ≤ n % 18446744073709551616 := Int.emod_nonneg _ (by decide)
  obtain ⟨N, hN⟩ : ∃ N, IntKind.i64.wrap (1 + IntKind.i64.wrap (Int.tmod (IntKind.u64.wrap n) 4)) = N := ⟨_, rfl⟩
  have hNr : 1 ≤ N ∧ N ≤ 4 := by
    rw [IntKind.wrap_u64, Int.tmod_eq_emod_of_nonneg hn0] at hN
    have h1 : 0 ≤ n % 18446744073709551616 % 4 := Int.emod_nonneg _ (by decide)
    have h2 : n % 18446744073709551616 % 4 < 4 := Int.emod_lt_of_pos _ (by decide)
    rw [wi_small (x := n % 18446744073709551616 % 4) (by omega) (by omega), wi_small (by omega) (by omega)] at hN
    omega
  unfold Fx_law14_ShareKeeps
  rw [hN]
  have gN : goodC N = true := goodC_iff.2 ⟨by omega, by omega⟩
  have hc : cellsI N = 6 * (N * N) := cells_good gN
  have sq := sq_bd (n := N) (by omega) (by omega)
  have hnew : (newR N).1 = some (netG N) := by
    unfold newR; rw [if_neg (by omega)]
  rw [hnew]
  have hC : (nCellsR (some (netG N))).1 = cellsI N := nCells_net N
  have hEd : (nEdgesR (some (netG N))).1 = ((netE N).1.length : Int) := rfl
  rw [hC, hEd]
  have hE := (netN_ok N (cellsI N).toNat (by omega)).2
  have hE : (netE N).1.length ≤ 4 * (cellsI N).toNat := hE
  have A := arOk_n N
  have hAr : ∀ c o, nAroundR (some (netG N)) c o = ((nAround (some (netG N)) c o).1, (nAround (some (netG N)) c o).2, ()) := fun _ _ => rfl
  have hnet : NetP (some (netG N)) := .inr ⟨N, gN, rfl⟩
  refine ⟨trivial, ?_⟩
  rintro _ rfl
  refine Br.intro (fun q => absurd q (by decide)) fun _ => ?_
  refine ⟨by decide, ⟨by omega, by omega⟩, trivial, ?_⟩
  have hc2 : IntKind.i64.wrap (cellsI N + 2) = cellsI N + 2 := wi_small (by omega) (by omega)
  have he2 : IntKind.i64.wrap (((netE N).1.length : Int) + 2) = ((netE N).1.length : Int) + 2 := wi_small (by omega) (by omega)
  rw [hc2, he2]
  refine ⟨⟨hs, by omega, by omega, rfl⟩, ?_⟩
  rintro _ rfl
  refine ⟨trivial, ⟨hf, by omega, by omega, rfl⟩, ?_⟩
  rintro _ rfl
  dsimp only [fitR]
  have lw : ((fitL s (cellsI N + 2) 4503599627370496 false).length : Int) = cellsI N + 2 := fitL_len _ _ _ _ (by omega)
  have lf : ((fitL f (((netE N).1.length : Int) + 2) 4503599627370496 true).length : Int) = (netE N).1.length + 2 := fitL_len _ _ _ _ (by omega)
  have hw : ∀ x ∈ fitL s (cellsI N + 2) 4503599627370496 false, 0 ≤ x ∧ x ≤ 4503599627370496 := fun x hx => ⟨(fitL_mem hx).2.2 rfl, (fitL_mem hx).2.1⟩
  have hG : ∀ x ∈ fitL f (((netE N).1.length : Int) + 2) 4503599627370496 true, FlowOk x = true := fun x hx => flowOk_iff.2 ⟨(fitL_mem hx).1, (fitL_mem hx).2.1⟩
  obtain ⟨w, ew⟩ : ∃ w, fitL s (cellsI N + 2) 4503599627370496 false = w := ⟨_, rfl⟩
  simp only [ew] at lw hw ⊢
  obtain ⟨G, eG⟩ : ∃ G, fitL f (((netE N).1.length : Int) + 2) 4503599627370496 true = G := ⟨_, rfl⟩
  simp only [eG] at lf hG ⊢
  simp only [List.drop_zero, List.take_length, List.nil_append, Nat.zero_add, Int.toNat_zero, Int.toNat_one, Int.sub_zero]
  obtain ⟨w', ew'⟩ : ∃ w', List.take (cellsI N).toNat w = w' := ⟨_, rfl⟩
  obtain ⟨F, eF⟩ : ∃ F, List.take ((netE N).1.length : Int).toNat G = F := ⟨_, rfl⟩
  simp only [ew', eF]
  have lw' : (w'.length : Int) = cellsI N := by rw [← ew', List.length_take]; omega
  have lF : (F.length : Int) = (netE N).1.length := by rw [← eF, List.length_take]; omega
  have hw' : ∀ x ∈ w', 0 ≤ x ∧ x ≤ 4503599627370496 := by rw [← ew']; exact take_mem hw
  have hF : ∀ x ∈ F, FlowOk x = true := by rw [← eF]; exact take_mem hG
  have iF : AllI F := fun x hx => ⟨by have := flowOk_iff.1 (hF x hx); omega, by have := flowOk_iff.1 (hF x hx); omega⟩
  have ww : WAll (some (netG N)) w' F := ⟨hnet, fun x hx => ⟨by have := hw' x hx; omega, by have := hw' x hx; omega⟩, iF⟩
  obtain ⟨out, hv, lo, _, _⟩ := share_fine lw' lF (fun x hx => (hw' x hx).1) hF
  have hi : (0 : Int) ≤ 0 ∧ 0 ≤ cellsI N ∧ cellsI N ≤ (w.length : Int) := ⟨by omega, by omega, by omega⟩
  have hi2 : (0 : Int) ≤ 0 ∧ 0 ≤ ((netE N).1.length : Int) ∧ ((netE N).1.length : Int) ≤ (G.length : Int) := ⟨by omega, by omega, by omega⟩
  refine ⟨⟨trivial, by omega⟩, ⟨trivial, by omega⟩, trivial, trivial, hi, hi2, ww, ?_⟩
  rintro _ rfl
  refine ⟨hi, hi2, ww, ?_⟩
  rintro _ rfl
  rw [hv]
  dsimp only
  obtain ⟨c, hcut⟩ : ∃ c, cuR (w.getD 0 0) (List.take (cellsI N - 1).toNat (List.drop 1 w)) = c := ⟨_, rfl⟩
  simp only [hcut]
  have lc : c.1.length ≤ (cellsI N).toNat := by
    rw [← hcut]
    refine Nat.le_trans (cutF_len _ _) ?_
    rw [List.length_take]; omega
  have hi0 : (0 : Int) ≤ 0 ∧ (0 : Int) < (w.length : Int) := ⟨by omega, by omega⟩
  have hi1 : (0 : Int) ≤ 1 ∧ 1 ≤ cellsI N ∧ cellsI N ≤ (w.length : Int) := ⟨by omega, by omega, by omega⟩
  have w0 := hw _ (getD_mem (l := w) (i := 0) (by omega) 0)
  have wc : WCu (w.getD 0 0) (List.take (cellsI N - 1).toNat (List.drop 1 w)) := by
    refine ⟨⟨by omega, by omega⟩, fun x hx => ?_, ?_⟩
    · have := take_mem (drop_mem hw) x hx
      exact ⟨by omega, by omega⟩
    · show (List.take (cellsI N - 1).toNat (List.drop 1 w)).length ≤ 65536
      rw [List.length_take]; omega
  refine ⟨hi0, hi1, wc, hi0, hi1, wc, ?_⟩
  rintro _ rfl
  refine Br.intro (fun q => by simp at q) fun _ => ?_
  rintro _ rfl
  refine Br.intro (fun q => by simp at q) fun _ => ?_
  rintro _ rfl
  refine Br.intro (fun q => by simp at q) fun _ => ?_
  have same : ∀ l : List Int, (intsR l l).1 = true := fun l => beq_self_eq_true l
  refine ⟨trivial, ?_⟩
  rintro _ rfl
  rintro _ rfl
  refine Br.intro (fun q => by rw [same] at q; exact absurd q (by decide)) fun _ => ?_
  refine ⟨trivial, ?_⟩
  rintro _ rfl
  rintro _ rfl
  refine Br.intro (fun q => by rw [same] at q; exact absurd q (by decide)) fun _ => ?_
  refine ⟨trivial, ?_⟩
  rintro _ rfl
  rintro _ rfl
  refine Br.intro (fun q => by rw [same] at q; exact absurd q (by decide)) fun _ => ?_
  refine ⟨trivial, ?_⟩
  rintro _ rfl
  rintro _ rfl
  refine Br.intro (fun q => by rw [same] at q; exact absurd q (by decide)) fun _ => ?_
  refine ⟨⟨trivial, by omega⟩, ⟨trivial, by omega⟩, rfl, fun x y => ∃ k : Nat, x.1 = k ∧ k ≤ out.length ∧ y.1.length = out.length, fun x _ => out.length - x.1.toNat, ⟨0, rfl, by omega, rfl⟩, ?_⟩
  rintro ⟨_, ⟨⟩⟩ ⟨ya, ⟨⟩⟩ ⟨k, rfl, hk, lya⟩
  dsimp only at lya ⊢
  rintro _ rfl
  refine Br.intro (fun d => ?_) fun d => ?_
  · have d : k < out.length := by have d : (k : Int) < out.length := of_decide_eq_true d; omega
    rw [Int.toNat_natCast, wi_succ d (by omega)]
    exact ⟨⟨by omega, by omega⟩, rfl, ⟨k + 1, rfl, by omega, by rw [List.length_set]; exact lya⟩, by omega⟩
  have d : k = out.length := by have d : ¬ (k : Int) < out.length := of_decide_eq_false d; omega
  refine ⟨rfl, fun x y => ∃ k : Nat, x.1 = k ∧ k ≤ c.1.length ∧ y.1.length = c.1.length, fun x _ => c.1.length - x.1.toNat, ⟨0, rfl, by omega, rfl⟩, ?_⟩
  rintro ⟨_, ⟨⟩⟩ ⟨yc, ⟨⟩⟩ ⟨k, rfl, hk, lyc⟩
  dsimp only at lyc ⊢
  rintro _ rfl
  refine Br.intro (fun d => ?_) fun d => ?_
  · have d : k < c.1.length := by have d : (k : Int) < c.1.length := of_decide_eq_true d; omega
    rw [Int.toNat_natCast, wi_succ d (by omega)]
    exact ⟨⟨by omega, by omega⟩, rfl, ⟨k + 1, rfl, by omega, by rw [List.length_set]; exact lyc⟩, by omega⟩
  have d : k = c.1.length := by have d : ¬ (k : Int) < c.1.length := of_decide_eq_false d; omega
  refine ⟨⟨lya.symm, by omega⟩, ⟨lyc.symm, by omega⟩, rfl, fun x y => ∃ k : Nat, x.1 = k ∧ k ≤ w.length ∧ y.1.length = w.length ∧ ∀ j : Nat, j < k → y.1.getD j 0 = 0, fun x _ => w.length - x.1.toNat, ⟨0, rfl, by omega, rfl, fun j hj => by omega⟩, ?_⟩
  rintro ⟨_, ⟨⟩⟩ ⟨yw, ⟨⟩⟩ ⟨k, rfl, hk, lyw, hzz⟩
  dsimp only at lyw ⊢
  rintro _ rfl
  refine Br.intro (fun d => ?_) fun d => ?_
  · have d : k < w.length := by have d : (k : Int) < w.length := of_decide_eq_true d; omega
    rw [Int.toNat_natCast, wi_succ d (by omega)]
    exact ⟨⟨by omega, by omega⟩, rfl, ⟨k + 1, rfl, by omega, by rw [List.length_set]; exact lyw, fun j hj => by
      by_cases e : j = k
      · subst e; exact getD_set_self (by omega)
      · rw [List.getD_eq_getElem?_getD, List.getElem?_set, if_neg (fun q => e q.symm), ← List.getD_eq_getElem?_getD]; exact hzz j (by omega)⟩, by omega⟩
  have d : k = w.length := by have d : ¬ (k : Int) < w.length := of_decide_eq_false d; omega
  subst d
  obtain ⟨w0, ew0⟩ : ∃ w0, List.take (cellsI N).toNat yw = w0 := ⟨_, rfl⟩
  simp only [ew0]
  have lw0 : (w0.length : Int) = cellsI N := by rw [← ew0, List.length_take]; omega
  have z0 : ∀ c : Nat, c < w0.length → w0.getD c 0 = 0 := fun c hc => by
    rw [← ew0, take_getD (by omega)]
    exact hzz c (by omega)
  have z1 : ∀ x ∈ w0, x = 0 := all_get z0
  refine ⟨hi, hi2, ⟨hnet, fun x hx => by rw [z1 x hx]; exact ⟨by decide, by decide⟩, iF⟩, ?_⟩
  rintro _ rfl
  obtain ⟨z, hzv, lz, zz⟩ := share_zero lw0 lF (fun x hx => by rw [z1 x hx]; exact Int.le_refl 0) hF z0
  rw [hzv]
  dsimp only
  refine ⟨rfl, fun x _ => ∃ k : Nat, x.1 = k ∧ k ≤ z.length, fun x _ => z.length - x.1.toNat, ⟨0, rfl, by omega⟩, ?_⟩
  rintro ⟨_, ⟨⟩⟩ _ ⟨k, rfl, hk⟩
  dsimp only
  rintro _ rfl
  refine Br.intro (fun d => ?_) fun _ => ?_
  · have d : k < z.length := by have d : (k : Int) < z.length := of_decide_eq_true d; omega
    rw [Int.toNat_natCast, wi_succ d (by omega)]
    refine ⟨⟨by omega, by omega⟩, ?_⟩
    rintro _ rfl
    exact Br.intro (fun q => absurd (zz k d) (by simpa using q)) fun _ => ⟨rfl, ⟨k + 1, rfl, by omega⟩, by omega⟩
  rintro _ rfl
  refine Br.intro (fun _ => ?_) fun q => by simp at q
  refine ⟨trivial, ?_⟩
  rintro _ rfl
  rintro _ rfl
  refine Br.intro (fun _ => ?_) fun q => by rw [same] at q; exact absurd q (by decide)
  refine ⟨trivial, ?_⟩
  rintro _ rfl
  rintro _ rfl
  refine Br.intro (fun _ => ?_) fun q => by rw [same] at q; exact absurd q (by decide)
  refine ⟨trivial, ?_⟩
  rintro _ rfl
  rintro _ rfl
  refine Br.intro (fun _ => ?_) fun q => by rw [same] at q; exact absurd q (by decide)
  have l8a : IntKind.i64.wrap (((ya.length + 4 : Nat) : Int) - 1) = ((ya.length + 3 : Nat) : Int) := by rw [wi_small (by omega) (by omega)]; omega
  rw [l8a, Int.toNat_natCast, last8]
  refine ⟨⟨by omega, by omega⟩, ?_⟩
  rintro _ rfl
  refine Br.intro (fun _ => ?_) fun q => by simp at q
  have l8c : IntKind.i64.wrap (((yc.length + 4 : Nat) : Int) - 1) = ((yc.length + 3 : Nat) : Int) := by rw [wi_small (by omega) (by omega)]; omega
  rw [l8c, Int.toNat_natCast, last8]
  refine ⟨⟨by omega, by omega⟩, ?_⟩
  rintro _ rfl
  rfl
end Go.Lift

set_option linter.unusedVariables false
set_option linter.unusedSimpArgs false
namespace Go.Lift
def Fx_law14_awake := fun (post : Bool × Unit → Prop) => ∃ (h : WCu (10 : Int) [(10 : Int), (5 : Int), (0 : Int)]), ∃ (h : III (7 : Int) (3 : Int) (2 : Int)), ∃ (h : III
  (4611686018427387904 : Int) (4611686018427387904 : Int) (4611686018427387904 : Int)), ∃ (h : True), ∀ (a : Bool × Unit), a = intsR [if psum [(10 : Int), (5 : Int), (0 : Int)] (3 :
  Nat) > (10 : Int) then part (10 : Int) (10 : Int) (psum [(10 : Int), (5 : Int), (0 : Int)] (3 : Nat)) else (10 : Int), if psum [(10 : Int), (5 : Int), (0 : Int)] (3 : Nat) > (10 :
  Int) then part (5 : Int) (10 : Int) (psum [(10 : Int), (5 : Int), (0 : Int)] (3 : Nat)) else (5 : Int), if psum [(10 : Int), (5 : Int), (0 : Int)] (3 : Nat) > (10 : Int) then part
  (0 : Int) (10 : Int) (psum [(10 : Int), (5 : Int), (0 : Int)] (3 : Nat)) else (0 : Int)] [(6 : Int), (3 : Int), (0 : Int)] → post (a.fst, ())
theorem Lx_law14_awake  : Fx_law14_awake   (fun r => r = yesR) := by
  refine ⟨⟨by unfold I64; decide, by unfold AllI I64; decide, by unfold ShortI; decide⟩, ⟨by unfold I64; decide, by unfold I64; decide, by unfold I64; decide⟩, ⟨by unfold I64; decide, by unfold I64; decide, by unfold I64; decide⟩, trivial, ?_⟩
  rintro _ rfl
  decide
end Go.Lift

set_option linter.unusedVariables false
set_option linter.unusedSimpArgs false
namespace Go.Lift
def Fx_share_Cut := fun (ty2 : Nat) (a : Int) (c : List Int) (post : List Int × Int × Unit → Prop) => Br (decide (a < (0 : Int))) (post ([], (1 : Int), ())) (HIs [] [] ∧ ∃ (I : Int
  × Int × Unit → Unit → Prop), ∃ (μ : Int × Int × Unit → Unit → Nat), I ((0 : Int), (0 : Int), ()) () ∧ ∀ (x : Int × Int × Unit) (y : Unit), I x y → Br (decide (x.snd.fst <
  (↑c.length : Int))) (∃ (h : (0 : Int) ≤ x.snd.fst ∧ x.snd.fst < (↑c.length : Int)), Br (decide (c.getD x.snd.fst.toNat (0 : Int) < (0 : Int))) (post ([], (1 : Int), ())) (Br
  (decide (c.getD x.snd.fst.toNat (0 : Int) > IntKind.i64.wrap ((9223372036854775807 : Int) - x.fst))) (post ([], (1 : Int), ())) (∀ (m : Int), m = IntKind.i64.wrap (x.fst + c.getD
  x.snd.fst.toNat (0 : Int)) → HIs [] [] ∧ I (m, IntKind.i64.wrap (x.snd.fst + (1 : Int)), ()) () ∧ μ (m, IntKind.i64.wrap (x.snd.fst + (1 : Int)), ()) () < μ x y))) (∃ (h : (0 :
  Int) ≤ (↑c.length : Int) ∧ (↑c.length : Int) ≤ (↑c.length : Int) ∧ (↑c.length : Int) * (↑(8 : Nat) : Int) ≤ (281474976710656 : Int)), HIs [HObj.row Md.rw ty2 (K.int IntKind.i64)
  (List.replicate c.length (0 : Int))] [HObj.row Md.rw ty2 (K.int IntKind.i64) (List.replicate c.length (0 : Int))] ∧ ∃ (I : Int × Unit → List Int × Unit → Prop), ∃ (μ : Int × Unit
  → List Int × Unit → Nat), I ((0 : Int), ()) (List.replicate c.length (0 : Int), ()) ∧ ∀ (x_2 : Int × Unit) (y : List Int × Unit), I x_2 y → Br (decide (x_2.fst < (↑c.length :
  Int))) (∃ (h : (0 : Int) ≤ x_2.fst ∧ x_2.fst < (↑c.length : Int)), ∃ (post : Int × Unit → Unit → Prop), Br (decide (x.fst > a)) (∃ (h : III (c.getD x_2.fst.toNat (0 : Int)) a
  x.fst), HIs [HObj.row Md.rw ty2 (K.int IntKind.i64) y.fst] [HObj.row Md.rw ty2 (K.int IntKind.i64) y.fst] ∧ post ((prtR (c.getD x_2.fst.toNat (0 : Int)) a x.fst).fst, ()) ()) (HIs
  [HObj.row Md.rw ty2 (K.int IntKind.i64) y.fst] [HObj.row Md.rw ty2 (K.int IntKind.i64) y.fst] ∧ post (c.getD x_2.fst.toNat (0 : Int), ()) ()) ∧ ∀ (x : Int × Unit) (y_1 : Unit),
  post x y_1 → ∃ (h : (0 : Int) ≤ x_2.fst ∧ x_2.fst < (↑c.length : Int)), HIs [HObj.row Md.rw ty2 (K.int IntKind.i64) (y.fst.set ((0 : Nat) + x_2.fst.toNat) x.fst)] [HObj.row Md.rw
  ty2 (K.int IntKind.i64) (y.fst.set ((0 : Nat) + x_2.fst.toNat) x.fst)] ∧ I (IntKind.i64.wrap (x_2.fst + (1 : Int)), ()) (y.fst.set ((0 : Nat) + x_2.fst.toNat) x.fst, ()) ∧ μ
  (IntKind.i64.wrap (x_2.fst + (1 : Int)), ()) (y.fst.set ((0 : Nat) + x_2.fst.toNat) x.fst, ()) < μ x_2 y) (((0 : Nat) = (0 : Nat) ∧ c.length = y.fst.length) ∧ post (y.fst, (0 :
  Int), ()))))
theorem Lx_share_Cut (ty0 : Nat) (a : Int) (c : List Int) (h : WCu a c) : Fx_share_Cut ty0 a c (fun r => r = cuR a c) := by
  obtain ⟨ha, hc, hl⟩ := h
  have hl : c.length ≤ 65536 := hl
  have hc : ∀ x ∈ c, I64 x := hc
  suffices H : ∀ post : List Int × Int × Unit → Prop, post ((cutF a c).1, (cutF a c).2, ()) → Fx_share_Cut ty0 a c post from H _ rfl
  intro post h
  unfold Fx_share_Cut
  refine Br.intro (fun e => ?_) fun e => ?_
  all_goals simp only [decide_eq_true_eq, decide_eq_false_iff_not, Int.not_lt] at e
  · rw [cutF_neg e] at h; exact h
  · refine ⟨rfl, fun x y => ∃ i : Nat, x.2.1 = i ∧ i ≤ c.length ∧ okTo 9223372036854775807 c i ∧ x.1 = psum c i, fun x _ => c.length - x.2.1.toNat, ⟨0, rfl, by omega, okTo_zero _ c, (psum_zero c).symm⟩, ?_⟩
    rintro ⟨sum, _, ⟨⟩⟩ ⟨⟩ ⟨i, hi, hil, hok, hg⟩
    dsimp only at hi hg ⊢
    subst hi hg
    have p0 := psum_nonneg hok hil
    have p1 := psum_le (by omega) hok
    refine Br.intro (fun d => ?_) fun d => ?_
    all_goals simp only [decide_eq_true_eq, decide_eq_false_iff_not, Int.not_lt] at d
    · have hlt : i < c.length := by omega
      have hs := psum_succ c i hlt
      have hx : I64 (c.getD i 0) := hc _ (mem_getD hlt)
      obtain ⟨x1, x2⟩ := hx
      refine ⟨⟨by omega, d⟩, ?_⟩
      simp only [Int.toNat_natCast]
      rw [wi (x := 9223372036854775807 - psum c i) ⟨by omega, by omega⟩]
      refine Br.intro (fun g => ?_) fun g => Br.intro (fun g' => ?_) fun g' => ?_
      all_goals simp only [decide_eq_true_eq, decide_eq_false_iff_not, Int.not_lt, gt_iff_lt] at g
      · rw [cutF_bad hlt (by omega)] at h; exact h
      · simp only [decide_eq_true_eq, gt_iff_lt] at g'
        rw [cutF_bad hlt (by omega)] at h; exact h
      · simp only [decide_eq_false_iff_not, Int.not_lt, gt_iff_lt] at g'
        rintro m hm
        rw [← hs, wi (x := psum c (i + 1)) ⟨by omega, by omega⟩] at hm
        subst hm
        refine ⟨rfl, ⟨i + 1, ?_, by omega, okTo_succ hok g (by omega), rfl⟩, ?_⟩
        · rw [wi ⟨by omega, by omega⟩]; omega
        · rw [wi ⟨by omega, by omega⟩]; omega
    · have : i = c.length := by omega
      subst this
      rw [cutF_ok e hok] at h
      refine ⟨⟨by omega, by omega, by omega⟩, rfl, fun x y => ∃ i : Nat, x.1 = i ∧ i ≤ c.length ∧ y.1 = filled 0 (cutOut a c) i, fun x _ => c.length - x.1.toNat, ⟨0, rfl, by omega, ?_⟩, ?_⟩
      · rw [filled_zero, cutOut_len]
      · rintro ⟨_, ⟨⟩⟩ ⟨y, ⟨⟩⟩ ⟨i, hi, hil, hy⟩
        dsimp only at hi hy ⊢
        subst hi hy
        refine Br.intro (fun d => ?_) fun d => ?_
        all_goals simp only [decide_eq_true_eq, decide_eq_false_iff_not, Int.not_lt] at d
        · have hlt : i < c.length := by omega
          simp only [Int.toNat_natCast]
          refine ⟨⟨by omega, d⟩, fun x _ => (cutOut a c)[i]? = some x.1, Br.intro (fun g => ?_) fun g => ?_, ?_⟩
          all_goals try simp only [decide_eq_true_eq, decide_eq_false_iff_not, Int.not_lt] at g
          · refine ⟨⟨hc _ (mem_getD hlt), ha, by omega, by omega⟩, rfl, ?_⟩
            rw [cutOut_get a c i hlt, if_pos g]
            try rfl
          · refine ⟨rfl, ?_⟩
            rw [cutOut_get a c i hlt, if_neg (by omega)]
          · rintro ⟨x, ⟨⟩⟩ _ hx
            refine ⟨⟨by omega, d⟩, rfl, ⟨i + 1, ?_, by omega, ?_⟩, ?_⟩
            · rw [wi ⟨by omega, by omega⟩]; omega
            · rw [Nat.zero_add]
              exact filled_set 0 _ i (by rw [cutOut_len]; exact hlt) hx
            · rw [wi ⟨by omega, by omega⟩]; omega
        · have : i = c.length := by omega
          subst this
          have e2 := filled_all 0 (cutOut a c)
          rw [cutOut_len] at e2
          rw [e2, cutOut_len]
          exact ⟨⟨by trivial, by trivial⟩, h⟩
end Go.Lift

set_option linter.unusedVariables false
set_option linter.unusedSimpArgs false
namespace Go.Lift
def Fx_mbits_Mul64 := F18
theorem Lx_mbits_Mul64 (a : Int) (b : Int) (h : WU2 a b) : Fx_mbits_Mul64  a b (fun r => r = mulR2 a b) := by
  exact mul64_eval h.1.1 h.1.2 h.2.1 h.2.2 rfl
def Fx_mbits_Div64 := F19
theorem Lx_mbits_Div64 (a : Int) (b : Int) (c : Int) (h : WDiv a b c) : Fx_mbits_Div64  a b c (fun r => r = divR2 a b c) := by
  obtain ⟨ha, hb, hc, hac⟩ := h
  have hc0 : (0 : Int) < c := Int.lt_of_le_of_lt ha.1 hac
  obtain ⟨s0, s1, s2, s3⟩ := lz_norm hc0 hc.2
  exact div64_eval (a := a) (b := b) (c := c) rfl hc s0 s1 s2 s3 ha.1 hac hb.1 hb.2 rfl
def Fx_share_Part := F12
theorem Lx_share_Part (a : Int) (b : Int) (c : Int) (h : III a b c) : Fx_share_Part  a b c (fun r => r = prtR a b c) := by
  exact part_eval h.1 h.2.1 h.2.2 rfl
end Go.Lift

set_option linter.unusedVariables false
set_option linter.unusedSimpArgs false
namespace Go.Lift
def Fx_sum_row := fun (a : List Nat) (post : Nat × Unit → Prop) => ∀ (a_1 : Bool), a_1 = ((↑a.length : Int) == (0 : Int)) → Br a_1 (post ((0 : Nat), ())) (∃ (h : (0 : Int) ≤ (0 :
  Int) ∧ (0 : Int) < (↑a.length : Int)), ∃ (h : (0 : Int) ≤ (1 : Int) ∧ (1 : Int) ≤ (↑a.length : Int) ∧ (↑a.length : Int) ≤ (↑a.length : Int)), HIs [] [] ∧ ∃ (I : Nat × Int × Unit →
  Unit → Prop), ∃ (μ : Nat × Int × Unit → Unit → Nat), I (a.getD (Int.toNat (0 : Int)) (0 : Nat), (0 : Int), ()) () ∧ ∀ (x : Nat × Int × Unit) (y : Unit), I x y → ∀ (a_2 : Bool),
  a_2 = decide (x.snd.fst < (↑(List.take ((↑a.length : Int) - (1 : Int)).toNat (List.drop (Int.toNat (1 : Int)) a)).length : Int)) → Br a_2 (∃ (h : (0 : Int) ≤ x.snd.fst ∧ x.snd.fst
  < (↑(List.take ((↑a.length : Int) - (1 : Int)).toNat (List.drop (Int.toNat (1 : Int)) a)).length : Int)), ∀ (a_3 : Nat), FRes Go.FloatKind.f64 (Go.FloatKind.f64.format.add x.fst
  ((List.take ((↑a.length : Int) - (1 : Int)).toNat (List.drop (Int.toNat (1 : Int)) a)).getD x.snd.fst.toNat (0 : Nat))) a_3 → HIs [] [] ∧ I (a_3, IntKind.i64.wrap (x.snd.fst + (1
  : Int)), ()) () ∧ μ (a_3, IntKind.i64.wrap (x.snd.fst + (1 : Int)), ()) () < μ x y) (∃ (h : True), post ((quietR x.fst).fst, ())))
theorem Lx_sum_row (a : List Nat) (h : WL a) (w : KS.wf [.slice (.flt .f64)] (a, ())) : Fx_sum_row  a (fun r => r = rowR a) := by
  have hl : a.length ≤ maxN := w.1.1
  unfold maxN at hl
  rintro _ rfl
  refine Br.intro (fun e => ?_) fun e => ?_
  · have e : a.length = 0 := by have := eq_of_beq e; omega
    have : a = [] := List.eq_nil_of_length_eq_zero e
    subst this; rfl
  · have e : 0 < a.length := by
      rcases Nat.eq_zero_or_pos a.length with z | z
      · rw [z] at e; cases e
      · exact z
    refine ⟨⟨by omega, by omega⟩, ⟨by omega, by omega, by omega⟩, rfl, fun x _ => ∃ i : Nat, x.2.1 = i ∧ i + 1 ≤ a.length ∧ W64 x.1 ∧ quietF x.1 = rowQ (a.take (i + 1)), fun x _ => a.length - x.2.1.toNat, ⟨0, rfl, by omega, WL_getD h 0, (rowQ_one e).symm⟩, ?_⟩
    have ht : List.take ((a.length : Int) - 1).toNat (List.drop (Int.toNat 1) a) = a.drop 1 := by
      show List.take ((a.length : Int) - 1).toNat (List.drop 1 a) = a.drop 1
      apply List.take_of_length_le; rw [List.length_drop]; omega
    rw [ht]
    have hd : ∀ i, (a.drop 1).getD i 0 = a.getD (i + 1) 0 := by
      intro i; rw [List.getD_eq_getElem?_getD, List.getD_eq_getElem?_getD, List.getElem?_drop, Nat.add_comm]
    rintro ⟨acc, _, ⟨⟩⟩ _ ⟨i, hi, hil, hw, hq⟩
    dsimp only at hi hw hq
    subst hi
    dsimp only
    rintro _ rfl
    refine Br.intro (fun f => ?_) fun f => ?_
    · have f : i + 1 < a.length := by have := of_decide_eq_true f; rw [List.length_drop] at this; omega
      refine ⟨⟨by omega, by rw [List.length_drop]; omega⟩, fun r hr => ?_⟩
      rw [Int.toNat_natCast, hd] at hr
      obtain ⟨q1, q2⟩ := fadd hr
      refine ⟨rfl, ⟨i + 1, ?_, by omega, q2, ?_⟩, ?_⟩
      · rw [wi ⟨by omega, by omega⟩]; omega
      · show quietF r = _
        rw [q1, rowQ_at f (by omega), addQ_congr (x' := rowQ (a.take (i + 1))) (by rw [hq, rowQ_q]) rfl]
      · rw [wi ⟨by omega, by omega⟩]; omega
    · have f : a.length ≤ i + 1 := by have := of_decide_eq_false f; rw [List.length_drop] at this; omega
      refine ⟨trivial, congrArg r1 ?_⟩
      show quietF acc = _
      rw [hq, List.take_of_length_le f]
def Fx_sum_Three := fun (a b c : Nat) (post : Nat × Unit → Prop) => ∃ (h : (List.replicate (3 : Nat) (0 : Nat)).length = (3 : Nat) ∧ (3 : Nat) = (3 : Nat)), ∃ (h : (0 : Int) ≤ (0 :
  Int) ∧ (0 : Int) ≤ (3 : Int) ∧ (3 : Int) ≤ (3 : Int) ∧ (3 : Nat) = (3 : Nat)), ∃ (h : IsThree (3 : Int)), ∃ (h : (0 : Int) ≤ (1 : Int) ∧ (1 : Int) < (3 : Int)), ∃ (h : (0 : Int) ≤
  (0 : Int) ∧ (0 : Int) < (3 : Int)), ∃ (h : W2 b a), Br (decide ((cmpMR b a).fst < (0 : Int))) (∃ (h : (0 : Int) ≤ (0 : Int) ∧ (0 : Int) < (3 : Int)), ∃ (h : (0 : Int) ≤ (1 : Int)
  ∧ (1 : Int) < (3 : Int)), ∃ (h : (0 : Int) ≤ (1 : Int) ∧ (1 : Int) < (3 : Int)), ∃ (h : (0 : Int) ≤ (0 : Int) ∧ (0 : Int) < (3 : Int)), ∃ (h : (0 : Int) ≤ (2 : Int) ∧ (2 : Int) <
  (3 : Int)), ∃ (h : (0 : Int) ≤ (1 : Int) ∧ (1 : Int) < (3 : Int)), ∃ (h : W2 c a), Br (decide ((cmpMR c a).fst < (0 : Int))) (∃ (h : (0 : Int) ≤ (1 : Int) ∧ (1 : Int) < (3 :
  Int)), ∃ (h : (0 : Int) ≤ (2 : Int) ∧ (2 : Int) < (3 : Int)), ∃ (h : (0 : Int) ≤ (2 : Int) ∧ (2 : Int) < (3 : Int)), ∃ (h : (0 : Int) ≤ (1 : Int) ∧ (1 : Int) < (3 : Int)), ∃ (h :
  (0 : Int) ≤ (1 : Int) ∧ (1 : Int) < (3 : Int)), ∃ (h : (0 : Int) ≤ (0 : Int) ∧ (0 : Int) < (3 : Int)), ∃ (h : W2 c b), Br (decide ((cmpMR c b).fst < (0 : Int))) (∃ (h : (0 : Int)
  ≤ (0 : Int) ∧ (0 : Int) < (3 : Int)), ∃ (h : (0 : Int) ≤ (1 : Int) ∧ (1 : Int) < (3 : Int)), ∃ (h : (0 : Int) ≤ (1 : Int) ∧ (1 : Int) < (3 : Int)), ∃ (h : (0 : Int) ≤ (0 : Int) ∧
  (0 : Int) < (3 : Int)), ∃ (h : (0 : Int) ≤ (0 : Int) ∧ (0 : Int) ≤ (3 : Int) ∧ (3 : Int) ≤ (3 : Int) ∧ (3 : Nat) = [c, b, a].length), ∃ (h : WL [c, b, a]), post ((rowR [c, b,
  a]).fst, ())) (∃ (h : (0 : Int) ≤ (0 : Int) ∧ (0 : Int) ≤ (3 : Int) ∧ (3 : Int) ≤ (3 : Int) ∧ (3 : Nat) = [b, c, a].length), ∃ (h : WL [b, c, a]), post ((rowR [b, c, a]).fst,
  ()))) (∃ (h : (0 : Int) ≤ (0 : Int) ∧ (0 : Int) ≤ (3 : Int) ∧ (3 : Int) ≤ (3 : Int) ∧ (3 : Nat) = [b, a, c].length), ∃ (h : WL [b, a, c]), post ((rowR [b, a, c]).fst, ()))) (∃ (h
  : (0 : Int) ≤ (2 : Int) ∧ (2 : Int) < (3 : Int)), ∃ (h : (0 : Int) ≤ (1 : Int) ∧ (1 : Int) < (3 : Int)), ∃ (h : W2 c b), Br (decide ((cmpMR c b).fst < (0 : Int))) (∃ (h : (0 :
  Int) ≤ (1 : Int) ∧ (1 : Int) < (3 : Int)), ∃ (h : (0 : Int) ≤ (2 : Int) ∧ (2 : Int) < (3 : Int)), ∃ (h : (0 : Int) ≤ (2 : Int) ∧ (2 : Int) < (3 : Int)), ∃ (h : (0 : Int) ≤ (1 :
  Int) ∧ (1 : Int) < (3 : Int)), ∃ (h : (0 : Int) ≤ (1 : Int) ∧ (1 : Int) < (3 : Int)), ∃ (h : (0 : Int) ≤ (0 : Int) ∧ (0 : Int) < (3 : Int)), ∃ (h : W2 c a), Br (decide ((cmpMR c
  a).fst < (0 : Int))) (∃ (h : (0 : Int) ≤ (0 : Int) ∧ (0 : Int) < (3 : Int)), ∃ (h : (0 : Int) ≤ (1 : Int) ∧ (1 : Int) < (3 : Int)), ∃ (h : (0 : Int) ≤ (1 : Int) ∧ (1 : Int) < (3 :
  Int)), ∃ (h : (0 : Int) ≤ (0 : Int) ∧ (0 : Int) < (3 : Int)), ∃ (h : (0 : Int) ≤ (0 : Int) ∧ (0 : Int) ≤ (3 : Int) ∧ (3 : Int) ≤ (3 : Int) ∧ (3 : Nat) = [c, a, b].length), ∃ (h :
  WL [c, a, b]), post ((rowR [c, a, b]).fst, ())) (∃ (h : (0 : Int) ≤ (0 : Int) ∧ (0 : Int) ≤ (3 : Int) ∧ (3 : Int) ≤ (3 : Int) ∧ (3 : Nat) = [a, c, b].length), ∃ (h : WL [a, c,
  b]), post ((rowR [a, c, b]).fst, ()))) (∃ (h : (0 : Int) ≤ (0 : Int) ∧ (0 : Int) ≤ (3 : Int) ∧ (3 : Int) ≤ (3 : Int) ∧ (3 : Nat) = (3 : Nat)), ∃ (h : WL [a, b, c]), post ((rowR
  [a, b, c]).fst, ())))
theorem Lx_sum_Three (a : Nat) (b : Nat) (c : Nat) (h : W3 a b c) : Fx_sum_Three  a b c (fun r => r = threeR a b c) := by
  obtain ⟨ha, hb, hc⟩ := h
  have leaf : ∀ l, sort3 a b c = l → ((rowR l).fst, ()) = threeR a b c := by rintro _ rfl; rfl
  refine ⟨⟨rfl, rfl⟩, ⟨by decide, by decide, by decide, rfl⟩, rfl, by decide, by decide, ⟨hb, ha⟩, Br.intro (fun e => ⟨by decide, by decide, by decide, by decide, by decide, by decide, ⟨hc, ha⟩, Br.intro (fun f => ⟨by decide, by decide, by decide, by decide, by decide, by decide, ⟨hc, hb⟩, Br.intro (fun g => ⟨by decide, by decide, by decide, by decide, ⟨by decide, by decide, by decide, rfl⟩, WL3 hc hb ha, leaf _ ?_⟩) fun g => ⟨⟨by decide, by decide, by decide, rfl⟩, WL3 hb hc ha, leaf _ ?_⟩⟩) fun f => ⟨⟨by decide, by decide, by decide, rfl⟩, WL3 hb ha hc, leaf _ ?_⟩⟩) fun e => ⟨by decide, by decide, ⟨hc, hb⟩, Br.intro (fun f => ⟨by decide, by decide, by decide, by decide, by decide, by decide, ⟨hc, ha⟩, Br.intro (fun g => ⟨by decide, by decide, by decide, by decide, ⟨by decide, by decide, by decide, rfl⟩, WL3 hc ha hb, leaf _ ?_⟩) fun g => ⟨⟨by decide, by decide, by decide, rfl⟩, WL3 ha hc hb, leaf _ ?_⟩⟩) fun f => ⟨⟨by decide, by decide, by decide, rfl⟩, WL3 ha hb hc, leaf _ ?_⟩⟩⟩
  · have e : ltM b a = true := e
    have f : ltM c a = true := f
    have g : ltM c b = true := g
    unfold sort3; rw [e, f, g]; rfl
  · have e : ltM b a = true := e
    have f : ltM c a = true := f
    have g : ltM c b = false := g
    unfold sort3; rw [e, f, g]; rfl
  · have e : ltM b a = true := e
    have f : ltM c a = false := f
    unfold sort3; rw [e, f]; rfl
  · have e : ltM b a = false := e
    have f : ltM c b = true := f
    have g : ltM c a = true := g
    unfold sort3; rw [e, f, g]; rfl
  · have e : ltM b a = false := e
    have f : ltM c b = true := f
    have g : ltM c a = false := g
    unfold sort3; rw [e, f, g]; rfl
  · have e : ltM b a = false := e
    have f : ltM c b = false := f
    unfold sort3; rw [e, f]; rfl
end Go.Lift

set_option linter.unusedVariables false
set_option linter.unusedSimpArgs false
namespace Go.Lift
def Fx_bits_quiet := fun (post : Nat × Unit → Prop) => ∃ (h : True), post ((fromR (9221120237041090561 : Int)).fst, ())
theorem Lx_bits_quiet  : Fx_bits_quiet   (fun r => r = qnR) := by
  exact ⟨trivial, rfl⟩
def Fx_math_Abs := fun (a : Nat) (post : Nat × Unit → Prop) => ∃ (h : True), ∃ (h : True), post ((fromR (Go.bits Go.BinOp.andNot IntKind.u64 (bitsR a).fst (9223372036854775808 :
  Int))).fst, ())
theorem Lx_math_Abs (a : Nat) (h : W64 a) : Fx_math_Abs  a (fun r => r = absR a) := by
  refine ⟨trivial, trivial, ?_⟩
  show r1 (Go.bits .andNot .u64 (a : Int) 9223372036854775808).toNat = _
  rw [andNot_sign h]; rfl
def Fx_math_IsNaN := fun (a : Nat) (post : Bool × Unit → Prop) => ∀ (a_1 : Bool), a_1 = fcmp Go.BinOp.neq (Go.FloatKind.f64.format.order a a) → post (a_1, ())
theorem Lx_math_IsNaN (a : Nat) : Fx_math_IsNaN  a (fun r => r = nanR a) := by
  rintro _ rfl
  exact congrArg r1 (neq_self a)
def Fx_bits_Canon := fun (a : Nat) (post : Nat × Unit → Prop) => ∀ (a_1 : Bool), a_1 = fcmp Go.BinOp.neq (Go.FloatKind.f64.format.order a a) → Br a_1 (∃ (h : True), post (qnR.fst,
  ())) (∀ (a_2 : Bool), a_2 = fcmp Go.BinOp.eql (Go.FloatKind.f64.format.order a (0 : Nat)) → Br a_2 (post ((0 : Nat), ())) (post (a, ())))
theorem Lx_bits_Canon (a : Nat) : Fx_bits_Canon  a (fun r => r = canonR a) := by
  rintro _ rfl
  refine Br.intro (fun e => ⟨trivial, ?_⟩) fun e => ?_
  · have e : isN a = true := (neq_self a).symm.trans e
    exact congrArg r1 (by unfold canonF; rw [if_pos e]; rfl)
  · have e : isN a = false := (neq_self a).symm.trans e
    rintro _ rfl
    refine Br.intro (fun z => ?_) fun z => ?_
    · have z := (eql_zero a).symm.trans z
      rw [e] at z
      exact congrArg r1 (by unfold canonF; rw [e, if_neg (by simp), if_pos (by simpa using z)])
    · have z := (eql_zero a).symm.trans z
      rw [e] at z
      exact congrArg r1 (by unfold canonF; rw [e, if_neg (by simp), if_neg (by simpa using z)])
def Fx_sum_quiet := fun (a : Nat) (post : Nat × Unit → Prop) => ∃ (h : True), ∀ (a_1 : Bool), a_1 = (nanR a).fst → Br a_1 (∃ (h : True), post ((fromR (9221120237041090561 :
  Int)).fst, ())) (post (a, ()))
theorem Lx_sum_quiet (a : Nat) : Fx_sum_quiet  a (fun r => r = quietR a) := by
  refine ⟨trivial, ?_⟩
  rintro _ rfl
  refine Br.intro (fun e => ⟨trivial, ?_⟩) fun e => ?_
  · have e : isN a = true := e
    exact congrArg r1 (by unfold quietF; rw [if_pos e]; rfl)
  · have e : isN a = false := e
    exact congrArg r1 (by unfold quietF; rw [e]; rfl)
def Fx_sum_magnitude := fun (a : Nat) (post : Int × Unit → Prop) => ∃ (h : True), ∃ (h : (0 : Int) ≤ (1 : Int)), post (IntKind.u64.wrap ((bitsR a).fst * (2 : Int) ^ Min.min
  (Int.toNat (1 : Int)) IntKind.u64.bits), ())
theorem Lx_sum_magnitude (a : Nat) (h : W64 a) : Fx_sum_magnitude  a (fun r => r = mag2R a) := by
  refine ⟨trivial, by decide, ?_⟩
  refine congrArg r1 ?_
  show IntKind.u64.wrap ((a : Int) * 2 ^ 1) = _
  rw [IntKind.wrap_u64]; unfold mag2 magI rungOf sw; omega
def Fx_bits_place := fun (a : Nat) (post : Int × Unit → Prop) => ∃ (h : True), ∀ (a_1 : Bool), a_1 = decide ((bitsR a).fst ≥ (9223372036854775808 : Int)) → Br a_1 (post (Go.bits
  Go.BinOp.xor IntKind.u64 (if IntKind.u64.signed = Bool.true then (-1 : Int) else IntKind.u64.max) (bitsR a).fst, ())) (post (Go.bits Go.BinOp.or IntKind.u64 (bitsR a).fst
  (9223372036854775808 : Int), ()))
theorem Lx_bits_place (a : Nat) (h : W64 a) : Fx_bits_place  a (fun r => r = placeR a) := by
  refine ⟨trivial, ?_⟩
  rintro _ rfl
  refine Br.intro (fun e => ?_) fun e => ?_
  · have e : 9223372036854775808 ≤ a := by have := of_decide_eq_true e; dsimp only [bitsR, r1] at this; omega
    refine congrArg r1 ?_
    show Go.bits .xor .u64 _ (a : Int) = _
    unfold placeI; rw [if_pos ((sgn_iff h).2 e)]
    exact xor_ones h
  · have e : a < 9223372036854775808 := by have := of_decide_eq_false e; dsimp only [bitsR, r1] at this; omega
    refine congrArg r1 ?_
    show Go.bits .or .u64 (a : Int) 9223372036854775808 = _
    unfold placeI; rw [if_neg (by rw [sgn_iff h]; omega)]
    exact or_sign e
def Fx_cmp_isNaN_uint64 := fun (a : Int) (post : Bool × Unit → Prop) => ∀ (a_1 : Bool), a_1 = (a != a) → post (a_1, ())
theorem Lx_cmp_isNaN_uint64 (a : Int) : Fx_cmp_isNaN_uint64  a (fun r => r = noR a) := by
  rintro _ rfl
  exact congrArg r1 (by simp)
def Fx_cmp_Compare_uint64 := fun (a b : Int) (post : Int × Unit → Prop) => ∃ (h : True), ∀ (a_1 : Bool), a_1 = (noR a).fst → ∃ (h : True), ∀ (a_2 : Bool), a_2 = (noR b).fst → Br a_1
  (Br a_2 (post ((0 : Int), ())) (post ((-1 : Int), ()))) (Br a_2 (post ((1 : Int), ())) (∀ (a_3 : Bool), a_3 = decide (a < b) → Br a_3 (post ((-1 : Int), ())) (∀ (a_4 : Bool), a_4
  = decide (a > b) → Br a_4 (post ((1 : Int), ())) (post ((0 : Int), ())))))
theorem Lx_cmp_Compare_uint64 (a : Int) (b : Int) : Fx_cmp_Compare_uint64  a b (fun r => r = cmpR a b) := by
  refine ⟨trivial, ?_⟩
  rintro _ rfl
  refine ⟨trivial, ?_⟩
  rintro _ rfl
  refine Br.intro (fun e => by cases e) fun _ => Br.intro (fun e => by cases e) fun _ => ?_
  rintro _ rfl
  refine Br.intro (fun e => ?_) fun e => ?_
  · exact congrArg r1 (by unfold cmpI; rw [if_pos (of_decide_eq_true e)])
  · rintro _ rfl
    refine Br.intro (fun f => ?_) fun f => ?_
    · exact congrArg r1 (by unfold cmpI; rw [if_neg (of_decide_eq_false e), if_pos (of_decide_eq_true f)])
    · exact congrArg r1 (by unfold cmpI; rw [if_neg (of_decide_eq_false e), if_neg (of_decide_eq_false f)])
def Fx_bits_Order := fun (a b : Nat) (post : Int × Unit → Prop) => ∃ (h : W64 a), ∃ (h : W64 b), ∃ (h : True), post ((cmpR (placeR a).fst (placeR b).fst).fst, ())
theorem Lx_bits_Order (a : Nat) (b : Nat) (h : W2 a b) : Fx_bits_Order  a b (fun r => r = ordR a b) := by
  exact ⟨h.1, h.2, trivial, rfl⟩
def Fx_cmp_Or_int := fun (a : List Int) (post : Int × Unit → Prop) => HIs [] [] ∧ ∃ (I : Int × Unit → Unit → Prop), ∃ (μ : Int × Unit → Unit → Nat), I ((0 : Int), ()) () ∧ ∀ (x :
  Int × Unit) (y : Unit), I x y → ∀ (a_1 : Bool), a_1 = decide (x.fst < (↑a.length : Int)) → Br a_1 (∃ (h : (0 : Int) ≤ x.fst ∧ x.fst < (↑a.length : Int)), ∀ (a_2 : Bool), a_2 =
  (a.getD x.fst.toNat (0 : Int) != (0 : Int)) → Br a_2 (post (a.getD x.fst.toNat (0 : Int), ())) (HIs [] [] ∧ I (IntKind.i64.wrap (x.fst + (1 : Int)), ()) () ∧ μ (IntKind.i64.wrap
  (x.fst + (1 : Int)), ()) () < μ x y)) (post ((0 : Int), ()))
theorem Lx_cmp_Or_int (a : List Int) (w : KS.wf [.slice (.int .i64)] (a, ())) : Fx_cmp_Or_int  a (fun r => r = orR a) := by
  have hl : a.length ≤ maxN := w.1.1
  unfold maxN at hl
  refine ⟨rfl, fun x _ => ∃ i : Nat, x.1 = i ∧ i ≤ a.length ∧ firstNZ (a.drop i) = firstNZ a, fun x _ => a.length - x.1.toNat, ⟨0, rfl, by omega, rfl⟩, ?_⟩
  rintro ⟨_, ⟨⟩⟩ _ ⟨i, hi, hil, hn⟩
  dsimp only at hi
  subst hi
  rintro _ rfl
  refine Br.intro (fun e => ?_) fun e => ?_
  · have e : i < a.length := by have := of_decide_eq_true e; dsimp only at this; omega
    have hd : a.drop i = a.getD i 0 :: a.drop (i + 1) := by
      rw [List.drop_eq_getElem_cons e, List.getD_eq_getElem?_getD, List.getElem?_eq_getElem e]; rfl
    rw [hd] at hn
    simp only [Int.toNat_natCast]
    refine ⟨⟨by omega, by omega⟩, ?_⟩
    rintro _ rfl
    refine Br.intro (fun z => ?_) fun z => ⟨rfl, ⟨i + 1, ?_, by omega, ?_⟩, ?_⟩
    · have z : a.getD i 0 ≠ 0 := by simpa using z
      refine congrArg r1 ?_
      rw [← hn]; unfold firstNZ; rw [if_pos z]
    · rw [wi ⟨by omega, by omega⟩]; omega
    · have z : a.getD i 0 = 0 := by simpa using z
      rw [← hn, z]; rfl
    · rw [wi ⟨by omega, by omega⟩]; omega
  · have e : a.length ≤ i := by have := of_decide_eq_false e; dsimp only at this; omega
    refine congrArg r1 ?_
    rw [← hn, List.drop_eq_nil_of_le e]; rfl
def Fx_sum_Three_c1 := fun (a b : Nat) (post : Int × Unit → Prop) => ∃ (h : W64 a), ∃ (h : W64 b), ∃ (h : True), ∃ (h : W2 a b), ∃ (h : True), post ((orR [(cmpR (mag2R a).fst (mag2R
  b).fst).fst, (ordR a b).fst]).fst, ())
theorem Lx_sum_Three_c1 (a : Nat) (b : Nat) (h : W2 a b) : Fx_sum_Three_c1  a b (fun r => r = cmpMR a b) := by
  refine ⟨h.1, h.2, trivial, h, trivial, ?_⟩
  refine congrArg r1 ?_
  unfold cmpM
  show firstNZ [cmpI (mag2 a) (mag2 b), ordF a b] = _
  simp only [firstNZ]
  split
  · rfl
  · split
    · rfl
    · rename_i z; simpa using (by simpa using z : ordF a b = 0).symm
def Fx_math_IsInf := fun (a : Nat) (b : Int) (post : Bool × Unit → Prop) => ∀ (a_1 : Bool), a_1 = (b == (0 : Int)) → Br a_1 (∃ (h : W64 a), ∀ (a_2 : Bool), a_2 = fcmp Go.BinOp.gtr
  (Go.FloatKind.f64.format.order (absR a).fst (9218868437227405311 : Nat)) → post (a_2, ())) (∀ (a_2 : Bool), a_2 = decide (b < (0 : Int)) → Br a_2 (∀ (a_3 : Bool), a_3 = fcmp
  Go.BinOp.gtr (Go.FloatKind.f64.format.order (Go.Op.negFloat Go.FloatKind.f64 a) (9218868437227405311 : Nat)) → post (a_3, ())) (∀ (a_3 : Bool), a_3 = fcmp Go.BinOp.gtr
  (Go.FloatKind.f64.format.order a (9218868437227405311 : Nat)) → post (a_3, ())))
theorem Lx_math_IsInf (a : Nat) (b : Int) (h : WI a b) : Fx_math_IsInf  a b (fun r => r = infSR a b) := by
  have h : W64 a := h
  rintro _ rfl
  refine Br.intro (fun e => ⟨h, ?_⟩) fun e => ?_
  · have e : b = 0 := by simpa using e
    rintro _ rfl
    refine congrArg r1 ?_
    show fcmp .gtr (Ieee.double.order (rungOf a) 9218868437227405311) = _
    unfold infS; rw [if_pos e, gt_max]
    have := rung_lt a
    have e1 : rungOf (rungOf a) = rungOf a := rung_lo this
    have e2 : sgn (rungOf a) = false := by rw [sgn_dec (by unfold W64; omega)]; simp; omega
    rw [e1, e2]; simp
  · have e : b ≠ 0 := by simpa using e
    rintro _ rfl
    refine Br.intro (fun f => ?_) fun f => ?_
    · have f : b < 0 := of_decide_eq_true f
      rintro _ rfl
      refine congrArg r1 ?_
      show fcmp .gtr (Ieee.double.order (negF a) 9218868437227405311) = _
      unfold infS; rw [if_neg e, if_pos f, gt_max, (rung_negF h).1, sgn_negF h]; simp
    · have f : ¬ b < 0 := of_decide_eq_false f
      rintro _ rfl
      refine congrArg r1 ?_
      show fcmp .gtr (Ieee.double.order a 9218868437227405311) = _
      unfold infS; rw [if_neg e, if_neg f, gt_max]
end Go.Lift

set_option linter.unusedVariables false
set_option linter.unusedSimpArgs false
namespace Go.Lift
theorem ResRep.one {w w' : World} {k : K} {x : k.T} {v : Value} {ok : Nat → Prop} (h : ∀ fr, KRep w' fr k x v) : ResRep w w' ok [.snap k] (x, ()) v :=
  ⟨[v], [], rfl, fun i j b h => by simp at h, v, [], [], [], rfl, rfl, ⟨rfl, h _⟩, rfl, rfl⟩
section
variable {P : Program} {G : Globs} {f : FuncId} {fn : Func} (hf : P.funcs[f]? = some fn) (hname : (fn.name == "runtime.NumGoroutine") = false) (hb : fn.body.isNone = true) (hn : Extern.findNext fn = none)
include hf hname hb hn
theorem ext_bits64 (he : Extern.find fn = some Extern.MathFloatBits.float64bits) : (Con.det [.flt .f64] [.snap (.int .u64)] (fun _ => True) (fun x => bitsR x.1)).holds P G f := by
  have main : ∀ (w : World) (ok : Nat → Prop) (b : Nat) (vs : List Value), vs = [.float .f64 b] → CallSpec P f vs.toArray w fun v w' => Grows w w' ∧ ResRep w w' ok [.snap (.int .u64)] (bitsR b) v := by
    rintro w ok b _ rfl
    refine .inl ⟨.int .u64 b, w, ?_, Grows.refl w, ResRep.one fun _ => rfl⟩
    rw [run_callFunc_extern hf hname hb hn he]; rfl
  rintro w ok _ ⟨b, ⟨⟩⟩ vs ⟨v, r, rfl, h1, rfl⟩ _ _
  exact main w ok b _ h1
theorem ext_from64 (he : Extern.find fn = some Extern.MathFloatBits.float64frombits) : (Con.det [.int .u64] [.snap (.flt .f64)] (fun _ => True) (fun x => fromR x.1)).holds P G f := by
  have main : ∀ (w : World) (ok : Nat → Prop) (b : Int) (vs : List Value), vs = [.int .u64 b] → CallSpec P f vs.toArray w fun v w' => Grows w w' ∧ ResRep w w' ok [.snap (.flt .f64)] (fromR b) v := by
    rintro w ok b _ rfl
    refine .inl ⟨.float .f64 b.toNat, w, ?_, Grows.refl w, ResRep.one fun _ => rfl⟩
    rw [run_callFunc_extern hf hname hb hn he]; rfl
  rintro w ok _ ⟨b, ⟨⟩⟩ vs ⟨v, r, rfl, h1, rfl⟩ _ _
  exact main w ok b _ h1
theorem ext_sqrt (he : Extern.find fn = some Extern.MathSqrt.sqrt) {ne} : (Con.rel [.flt .f64] [.snap (.flt .f64)] (fun _ => True) (fun x r => sqrtP x.1 r) ne).holds P G f := by
  have main : ∀ (w : World) (ok : Nat → Prop) (b : Nat) (vs : List Value), vs = [.float .f64 b] → CallSpec P f vs.toArray w fun v w' => ∃ r : RS [.snap (.flt .f64)], sqrtP b r ∧ Grows w w' ∧ ResRep w w' ok [.snap (.flt .f64)] r v := by
    rintro w ok b _ rfl
    have e : Extern.MathSqrt.sqrt [Value.float .f64 b].toArray = (match FloatKind.f64.format.sqrt b with
      | some r => pure (.float .f64 r)
      | none => do pure (.float .f64 (← choose (.nanBits .f64 b b)))) := rfl
    have key : ∀ (r : Nat) (w' : World), FRes .f64 (FloatKind.f64.format.sqrt b) r → Grows w w' → (Extern.MathSqrt.sqrt [Value.float .f64 b].toArray).run P w = .ok (.float .f64 r) w' →
        CallSpec P f [Value.float .f64 b].toArray w fun v w' => ∃ r : RS [.snap (.flt .f64)], sqrtP b r ∧ Grows w w' ∧ ResRep w w' ok [.snap (.flt .f64)] r v := by
      intro r w' hr hg hrun
      refine .inl ⟨.float .f64 r, w', ?_, (r, ()), fsqrt hr, hg, ResRep.one fun _ => rfl⟩
      rw [run_callFunc_extern hf hname hb hn he, hrun]; rfl
    cases hs : FloatKind.f64.format.sqrt b with
    | some r => exact key r w (by rw [hs]; rfl) (Grows.refl w) (by rw [e, hs]; rfl)
    | none =>
      refine key ((Question.nanBits .f64 b b).cut (w.tape w.drawn (.nanBits .f64 b b))) w.drew (by rw [hs]; exact nan_cut _ _ _ _) (Grows.drew w) ?_
      have hq : (Question.nanBits .f64 b b).forced = false := rfl
      rw [e, hs]
      simp [hq]
  rintro w ok _ ⟨b, ⟨⟩⟩ vs ⟨v, r, rfl, h1, rfl⟩ _ _
  exact main w ok b _ h1
end
end Go.Lift

set_option linter.unusedVariables false
set_option linter.unusedSimpArgs false
namespace Go.Lift
section
variable {P : Program} {G : Globs} {f : FuncId} {fn : Func} (hf : P.funcs[f]? = some fn) (hname : (fn.name == "runtime.NumGoroutine") = false) (hb : fn.body.isNone = true) (hn : Extern.findNext fn = none)
include hf hname hb hn
theorem ext_floor (he : Extern.find fn = some (Extern.MathFloor.toIntegral "math.archFloor" .down)) : (Con.det [.flt .f64] [.snap (.flt .f64)] (fun x => WNum x.1) (fun x => floorR x.1)).holds P G f := by
  have main : ∀ (w : World) (ok : Nat → Prop) (b : Nat) (vs : List Value), vs = [.float .f64 b] → WNum b → CallSpec P f vs.toArray w fun v w' => Grows w w' ∧ ResRep w w' ok [.snap (.flt .f64)] (floorR b) v := by
    rintro w ok b _ rfl hq
    refine .inl ⟨.float .f64 (floorF b), w, ?_, Grows.refl w, ResRep.one fun _ => rfl⟩
    rw [run_callFunc_extern hf hname hb hn he]
    have e : Extern.MathFloor.toIntegral "math.archFloor" .down [Value.float .f64 b].toArray = pure (.float .f64 (floorF b)) := by
      show (match Ieee.double.read b with
        | .nan s t => _
        | d => pure (Value.float .f64 (FloatKind.f64.encode (d.integral .down)))) = _
      have : (Ieee.double.read b).isNaN = false := (isN_eq b).trans hq.2
      unfold floorF
      cases h : Ieee.double.read b with
      | nan s t => rw [h] at this; cases this
      | number s m e => rfl
      | infinity s => rfl
    rw [e]; rfl
  rintro w ok _ ⟨b, ⟨⟩⟩ vs ⟨v, r, rfl, h1, rfl⟩ _ hp
  exact main w ok b _ h1 hp
end
end Go.Lift

set_option linter.unusedVariables false
set_option linter.unusedSimpArgs false
namespace Go.Lift
open Go.Proofs
theorem Rah_math_Float64bits : Raq_math_Float64bits.holds Tryd.prog RaG 76 := by
  refine ext_bits64 (fn := Tryd.f76) Tryd.func76 (by decide) rfl rfl (by kernel_rfl)
theorem Rah_math_Float64frombits : Raq_math_Float64frombits.holds Tryd.prog RaG 75 := by
  refine ext_from64 (fn := Tryd.f75) Tryd.func75 (by decide) rfl rfl (by kernel_rfl)
theorem Rah_math_sqrt : Raq_math_sqrt.holds Tryd.prog RaG 67 := by
  refine ext_sqrt (fn := Tryd.f67) Tryd.func67 (by decide) rfl rfl (by kernel_rfl)
def Rax_bits_quiet : Cx := ⟨tabOf Ratab, conOf [(75, Raq_math_Float64frombits)], RaG⟩
theorem Rax_bits_quiet_ok : CxOk Tryd.prog Rax_bits_quiet := ⟨tabB_sound Ratab_ok, conOf_sound ⟨Rah_math_Float64frombits, trivial⟩⟩
theorem Raat_bits_quiet : FnAt Tryd.prog 66 Tryd.f66.ntmps Tryd.f66.results.toList (Tryd.f66.body.getD .skip) := ⟨Tryd.f66, Tryd.func66, rfl, rfl, by simp, by decide⟩
theorem Raeq_bits_quiet  (post : Nat × Unit → Prop) : fnEval Rax_bits_quiet nHn Tryd.f66.ntmps Tryd.f66.results.toList (Tryd.f66.body.getD .skip) [] [.snap (.flt .f64)] (()) post = Fx_bits_quiet   post := by kernel_rfl
theorem Rah_bits_quiet : Raq_bits_quiet.holds Tryd.prog RaG 66 :=
  detP Rax_bits_quiet_ok Ramixed nHn Raat_bits_quiet (F := fun x post => Fx_bits_quiet   post) (fun x post => Raeq_bits_quiet  post) fun x _ _ => Lx_bits_quiet
def Rax_math_Abs : Cx := ⟨tabOf Ratab, conOf [(76, Raq_math_Float64bits), (75, Raq_math_Float64frombits)], RaG⟩
theorem Rax_math_Abs_ok : CxOk Tryd.prog Rax_math_Abs := ⟨tabB_sound Ratab_ok, conOf_sound ⟨Rah_math_Float64bits, Rah_math_Float64frombits, trivial⟩⟩
theorem Raat_math_Abs : FnAt Tryd.prog 63 Tryd.f63.ntmps Tryd.f63.results.toList (Tryd.f63.body.getD .skip) := ⟨Tryd.f63, Tryd.func63, rfl, rfl, by simp, by decide⟩
theorem Raeq_math_Abs (a : Nat) (post : Nat × Unit → Prop) : fnEval Rax_math_Abs nHn Tryd.f63.ntmps Tryd.f63.results.toList (Tryd.f63.body.getD .skip) [.flt .f64] [.snap (.flt .f64)] (a, ()) post = Fx_math_Abs  a post := by kernel_rfl
theorem Rah_math_Abs : Raq_math_Abs.holds Tryd.prog RaG 63 :=
  detP Rax_math_Abs_ok Ramixed nHn Raat_math_Abs (F := fun x post => Fx_math_Abs  x.1 post) (fun x post => Raeq_math_Abs x.1 post) fun x h _ => Lx_math_Abs  x.1 h
def Rax_math_IsNaN : Cx := ⟨tabOf Ratab, conOf [], RaG⟩
theorem Rax_math_IsNaN_ok : CxOk Tryd.prog Rax_math_IsNaN := ⟨tabB_sound Ratab_ok, fun f c h => by cases h⟩
theorem Raat_math_IsNaN : FnAt Tryd.prog 95 Tryd.f95.ntmps Tryd.f95.results.toList (Tryd.f95.body.getD .skip) := ⟨Tryd.f95, Tryd.func95, rfl, rfl, by simp, by decide⟩
theorem Raeq_math_IsNaN (a : Nat) (post : Bool × Unit → Prop) : fnEval Rax_math_IsNaN nHn Tryd.f95.ntmps Tryd.f95.results.toList (Tryd.f95.body.getD .skip) [.flt .f64] [.snap .bool] (a, ()) post = Fx_math_IsNaN  a post := by kernel_rfl
theorem Rah_math_IsNaN : Raq_math_IsNaN.holds Tryd.prog RaG 95 :=
  detP Rax_math_IsNaN_ok Ramixed nHn Raat_math_IsNaN (F := fun x post => Fx_math_IsNaN  x.1 post) (fun x post => Raeq_math_IsNaN x.1 post) fun x _ _ => Lx_math_IsNaN  x.1
def Rax_bits_Canon : Cx := ⟨tabOf Ratab, conOf [(66, Raq_bits_quiet)], RaG⟩
theorem Rax_bits_Canon_ok : CxOk Tryd.prog Rax_bits_Canon := ⟨tabB_sound Ratab_ok, conOf_sound ⟨Rah_bits_quiet, trivial⟩⟩
theorem Raat_bits_Canon : FnAt Tryd.prog 59 Tryd.f59.ntmps Tryd.f59.results.toList (Tryd.f59.body.getD .skip) := ⟨Tryd.f59, Tryd.func59, rfl, rfl, by simp, by decide⟩
theorem Raeq_bits_Canon (a : Nat) (post : Nat × Unit → Prop) : fnEval Rax_bits_Canon nHn Tryd.f59.ntmps Tryd.f59.results.toList (Tryd.f59.body.getD .skip) [.flt .f64] [.snap (.flt .f64)] (a, ()) post = Fx_bits_Canon  a post := by kernel_rfl
theorem Rah_bits_Canon : Raq_bits_Canon.holds Tryd.prog RaG 59 :=
  detP Rax_bits_Canon_ok Ramixed nHn Raat_bits_Canon (F := fun x post => Fx_bits_Canon  x.1 post) (fun x post => Raeq_bits_Canon x.1 post) fun x _ _ => Lx_bits_Canon  x.1
def Rax_sum_quiet : Cx := ⟨tabOf Ratab, conOf [(95, Raq_math_IsNaN), (75, Raq_math_Float64frombits)], RaG⟩
theorem Rax_sum_quiet_ok : CxOk Tryd.prog Rax_sum_quiet := ⟨tabB_sound Ratab_ok, conOf_sound ⟨Rah_math_IsNaN, Rah_math_Float64frombits, trivial⟩⟩
theorem Raat_sum_quiet : FnAt Tryd.prog 83 Tryd.f83.ntmps Tryd.f83.results.toList (Tryd.f83.body.getD .skip) := ⟨Tryd.f83, Tryd.func83, rfl, rfl, by simp, by decide⟩
theorem Raeq_sum_quiet (a : Nat) (post : Nat × Unit → Prop) : fnEval Rax_sum_quiet nHn Tryd.f83.ntmps Tryd.f83.results.toList (Tryd.f83.body.getD .skip) [.flt .f64] [.snap (.flt .f64)] (a, ()) post = Fx_sum_quiet  a post := by kernel_rfl
theorem Rah_sum_quiet : Raq_sum_quiet.holds Tryd.prog RaG 83 :=
  detP Rax_sum_quiet_ok Ramixed nHn Raat_sum_quiet (F := fun x post => Fx_sum_quiet  x.1 post) (fun x post => Raeq_sum_quiet x.1 post) fun x _ _ => Lx_sum_quiet  x.1
def Rax_sum_magnitude : Cx := ⟨tabOf Ratab, conOf [(76, Raq_math_Float64bits)], RaG⟩
theorem Rax_sum_magnitude_ok : CxOk Tryd.prog Rax_sum_magnitude := ⟨tabB_sound Ratab_ok, conOf_sound ⟨Rah_math_Float64bits, trivial⟩⟩
theorem Raat_sum_magnitude : FnAt Tryd.prog 72 Tryd.f72.ntmps Tryd.f72.results.toList (Tryd.f72.body.getD .skip) := ⟨Tryd.f72, Tryd.func72, rfl, rfl, by simp, by decide⟩
theorem Raeq_sum_magnitude (a : Nat) (post : Int × Unit → Prop) : fnEval Rax_sum_magnitude nHn Tryd.f72.ntmps Tryd.f72.results.toList (Tryd.f72.body.getD .skip) [.flt .f64] [.snap (.int .u64)] (a, ()) post = Fx_sum_magnitude  a post := by kernel_rfl
theorem Rah_sum_magnitude : Raq_sum_magnitude.holds Tryd.prog RaG 72 :=
  detP Rax_sum_magnitude_ok Ramixed nHn Raat_sum_magnitude (F := fun x post => Fx_sum_magnitude  x.1 post) (fun x post => Raeq_sum_magnitude x.1 post) fun x h _ => Lx_sum_magnitude  x.1 h
def Rax_bits_place : Cx := ⟨tabOf Ratab, conOf [(76, Raq_math_Float64bits)], RaG⟩
theorem Rax_bits_place_ok : CxOk Tryd.prog Rax_bits_place := ⟨tabB_sound Ratab_ok, conOf_sound ⟨Rah_math_Float64bits, trivial⟩⟩
theorem Raat_bits_place : FnAt Tryd.prog 82 Tryd.f82.ntmps Tryd.f82.results.toList (Tryd.f82.body.getD .skip) := ⟨Tryd.f82, Tryd.func82, rfl, rfl, by simp, by decide⟩
theorem Raeq_bits_place (a : Nat) (post : Int × Unit → Prop) : fnEval Rax_bits_place nHn Tryd.f82.ntmps Tryd.f82.results.toList (Tryd.f82.body.getD .skip) [.flt .f64] [.snap (.int .u64)] (a, ()) post = Fx_bits_place  a post := by kernel_rfl
theorem Rah_bits_place : Raq_bits_place.holds Tryd.prog RaG 82 :=
  detP Rax_bits_place_ok Ramixed nHn Raat_bits_place (F := fun x post => Fx_bits_place  x.1 post) (fun x post => Raeq_bits_place x.1 post) fun x h _ => Lx_bits_place  x.1 h
def Rax_cmp_isNaN_uint64 : Cx := ⟨tabOf Ratab, conOf [], RaG⟩
theorem Rax_cmp_isNaN_uint64_ok : CxOk Tryd.prog Rax_cmp_isNaN_uint64 := ⟨tabB_sound Ratab_ok, fun f c h => by cases h⟩
theorem Raat_cmp_isNaN_uint64 : FnAt Tryd.prog 81 Tryd.f81.ntmps Tryd.f81.results.toList (Tryd.f81.body.getD .skip) := ⟨Tryd.f81, Tryd.func81, rfl, rfl, by simp, by decide⟩
theorem Raeq_cmp_isNaN_uint64 (a : Int) (post : Bool × Unit → Prop) : fnEval Rax_cmp_isNaN_uint64 nHn Tryd.f81.ntmps Tryd.f81.results.toList (Tryd.f81.body.getD .skip) [.int .u64] [.snap .bool] (a, ()) post = Fx_cmp_isNaN_uint64  a post := by kernel_rfl
theorem Rah_cmp_isNaN_uint64 : Raq_cmp_isNaN_uint64.holds Tryd.prog RaG 81 :=
  detP Rax_cmp_isNaN_uint64_ok Ramixed nHn Raat_cmp_isNaN_uint64 (F := fun x post => Fx_cmp_isNaN_uint64  x.1 post) (fun x post => Raeq_cmp_isNaN_uint64 x.1 post) fun x _ _ => Lx_cmp_isNaN_uint64  x.1
def Rax_cmp_Compare_uint64 : Cx := ⟨tabOf Ratab, conOf [(81, Raq_cmp_isNaN_uint64)], RaG⟩
theorem Rax_cmp_Compare_uint64_ok : CxOk Tryd.prog Rax_cmp_Compare_uint64 := ⟨tabB_sound Ratab_ok, conOf_sound ⟨Rah_cmp_isNaN_uint64, trivial⟩⟩
theorem Raat_cmp_Compare_uint64 : FnAt Tryd.prog 71 Tryd.f71.ntmps Tryd.f71.results.toList (Tryd.f71.body.getD .skip) := ⟨Tryd.f71, Tryd.func71, rfl, rfl, by simp, by decide⟩
theorem Raeq_cmp_Compare_uint64 (a : Int) (b : Int) (post : Int × Unit → Prop) : fnEval Rax_cmp_Compare_uint64 nHn Tryd.f71.ntmps Tryd.f71.results.toList (Tryd.f71.body.getD .skip) [.int .u64, .int .u64] [.snap (.int .i64)] (a, b, ()) post = Fx_cmp_Compare_uint64  a b post := by kernel_rfl
theorem Rah_cmp_Compare_uint64 : Raq_cmp_Compare_uint64.holds Tryd.prog RaG 71 :=
  detP Rax_cmp_Compare_uint64_ok Ramixed nHn Raat_cmp_Compare_uint64 (F := fun x post => Fx_cmp_Compare_uint64  x.1 x.2.1 post) (fun x post => Raeq_cmp_Compare_uint64 x.1 x.2.1 post) fun x _ _ => Lx_cmp_Compare_uint64  x.1 x.2.1
def Rax_bits_Order : Cx := ⟨tabOf Ratab, conOf [(82, Raq_bits_place), (71, Raq_cmp_Compare_uint64)], RaG⟩
theorem Rax_bits_Order_ok : CxOk Tryd.prog Rax_bits_Order := ⟨tabB_sound Ratab_ok, conOf_sound ⟨Rah_bits_place, Rah_cmp_Compare_uint64, trivial⟩⟩
theorem Raat_bits_Order : FnAt Tryd.prog 73 Tryd.f73.ntmps Tryd.f73.results.toList (Tryd.f73.body.getD .skip) := ⟨Tryd.f73, Tryd.func73, rfl, rfl, by simp, by decide⟩
theorem Raeq_bits_Order (a : Nat) (b : Nat) (post : Int × Unit → Prop) : fnEval Rax_bits_Order nHn Tryd.f73.ntmps Tryd.f73.results.toList (Tryd.f73.body.getD .skip) [.flt .f64, .flt .f64] [.snap (.int .i64)] (a, b, ()) post = Fx_bits_Order  a b post := by kernel_rfl
theorem Rah_bits_Order : Raq_bits_Order.holds Tryd.prog RaG 73 :=
  detP Rax_bits_Order_ok Ramixed nHn Raat_bits_Order (F := fun x post => Fx_bits_Order  x.1 x.2.1 post) (fun x post => Raeq_bits_Order x.1 x.2.1 post) fun x h _ => Lx_bits_Order  x.1 x.2.1 h
def Rax_cmp_Or_int : Cx := ⟨tabOf Ratab, conOf [], RaG⟩
theorem Rax_cmp_Or_int_ok : CxOk Tryd.prog Rax_cmp_Or_int := ⟨tabB_sound Ratab_ok, fun f c h => by cases h⟩
theorem Raat_cmp_Or_int : FnAt Tryd.prog 70 Tryd.f70.ntmps Tryd.f70.results.toList (Tryd.f70.body.getD .skip) := ⟨Tryd.f70, Tryd.func70, rfl, rfl, by simp, by decide⟩
theorem Raeq_cmp_Or_int (a : List Int) (post : Int × Unit → Prop) : fnEval Rax_cmp_Or_int Rahn_cmp_Or_int Tryd.f70.ntmps Tryd.f70.results.toList (Tryd.f70.body.getD .skip) [.slice (.int .i64)] [.snap (.int .i64)] (a, ()) post = Fx_cmp_Or_int  a post := by kernel_rfl
theorem Rah_cmp_Or_int : Raq_cmp_Or_int.holds Tryd.prog RaG 70 :=
  detP Rax_cmp_Or_int_ok Ramixed Rahn_cmp_Or_int Raat_cmp_Or_int (F := fun x post => Fx_cmp_Or_int  x.1 post) (fun x post => Raeq_cmp_Or_int x.1 post) fun x _ w => Lx_cmp_Or_int  x.1 w
def Rax_sum_Three_c1 : Cx := ⟨tabOf Ratab, conOf [(72, Raq_sum_magnitude), (71, Raq_cmp_Compare_uint64), (73, Raq_bits_Order), (70, Raq_cmp_Or_int)], RaG⟩
theorem Rax_sum_Three_c1_ok : CxOk Tryd.prog Rax_sum_Three_c1 := ⟨tabB_sound Ratab_ok, conOf_sound ⟨Rah_sum_magnitude, Rah_cmp_Compare_uint64, Rah_bits_Order, Rah_cmp_Or_int, trivial⟩⟩
theorem Raat_sum_Three_c1 : FnAt Tryd.prog 69 Tryd.f69.ntmps Tryd.f69.results.toList (Tryd.f69.body.getD .skip) := ⟨Tryd.f69, Tryd.func69, rfl, rfl, by simp, by decide⟩
theorem Raeq_sum_Three_c1 (a : Nat) (b : Nat) (post : Int × Unit → Prop) : fnEval Rax_sum_Three_c1 nHn Tryd.f69.ntmps Tryd.f69.results.toList (Tryd.f69.body.getD .skip) [.flt .f64, .flt .f64] [.snap (.int .i64)] (a, b, ()) post = Fx_sum_Three_c1  a b post := by kernel_rfl
theorem Rah_sum_Three_c1 : Raq_sum_Three_c1.holds Tryd.prog RaG 69 :=
  detP Rax_sum_Three_c1_ok Ramixed nHn Raat_sum_Three_c1 (F := fun x post => Fx_sum_Three_c1  x.1 x.2.1 post) (fun x post => Raeq_sum_Three_c1 x.1 x.2.1 post) fun x h _ => Lx_sum_Three_c1  x.1 x.2.1 h
def Rax_math_IsInf : Cx := ⟨tabOf Ratab, conOf [(63, Raq_math_Abs)], RaG⟩
theorem Rax_math_IsInf_ok : CxOk Tryd.prog Rax_math_IsInf := ⟨tabB_sound Ratab_ok, conOf_sound ⟨Rah_math_Abs, trivial⟩⟩
theorem Raat_math_IsInf : FnAt Tryd.prog 78 Tryd.f78.ntmps Tryd.f78.results.toList (Tryd.f78.body.getD .skip) := ⟨Tryd.f78, Tryd.func78, rfl, rfl, by simp, by decide⟩
theorem Raeq_math_IsInf (a : Nat) (b : Int) (post : Bool × Unit → Prop) : fnEval Rax_math_IsInf nHn Tryd.f78.ntmps Tryd.f78.results.toList (Tryd.f78.body.getD .skip) [.flt .f64, .int .i64] [.snap .bool] (a, b, ()) post = Fx_math_IsInf  a b post := by kernel_rfl
theorem Rah_math_IsInf : Raq_math_IsInf.holds Tryd.prog RaG 78 :=
  detP Rax_math_IsInf_ok Ramixed nHn Raat_math_IsInf (F := fun x post => Fx_math_IsInf  x.1 x.2.1 post) (fun x post => Raeq_math_IsInf x.1 x.2.1 post) fun x h _ => Lx_math_IsInf  x.1 x.2.1 h
end Go.Lift

set_option linter.unusedVariables false
set_option linter.unusedSimpArgs false
namespace Go.Lift
open Go.Proofs
def Rax_sum_row : Cx := ⟨tabOf Ratab, conOf [(83, Raq_sum_quiet)], RaG⟩
theorem Rax_sum_row_ok : CxOk Tryd.prog Rax_sum_row := ⟨tabB_sound Ratab_ok, conOf_sound ⟨Rah_sum_quiet, trivial⟩⟩
theorem Raat_sum_row : FnAt Tryd.prog 74 Tryd.f74.ntmps Tryd.f74.results.toList (Tryd.f74.body.getD .skip) := ⟨Tryd.f74, Tryd.func74, rfl, rfl, by simp, by decide⟩
theorem Raeq_sum_row (a : List Nat) (post : Nat × Unit → Prop) : fnEval Rax_sum_row Rahn_sum_row Tryd.f74.ntmps Tryd.f74.results.toList (Tryd.f74.body.getD .skip) [.slice (.flt .f64)] [.snap (.flt .f64)] (a, ()) post = Fx_sum_row  a post := by kernel_rfl
theorem Rah_sum_row : Raq_sum_row.holds Tryd.prog RaG 74 :=
  detP Rax_sum_row_ok Ramixed Rahn_sum_row Raat_sum_row (F := fun x post => Fx_sum_row  x.1 post) (fun x post => Raeq_sum_row x.1 post) fun x h w => Lx_sum_row  x.1 h w
def Rax_mbits_Len64 : Cx := ⟨tabOf Ratab, fun _ => none, RaG⟩
theorem Rax_mbits_Len64_ok : CxOk Tryd.prog Rax_mbits_Len64 := ⟨tabB_sound Ratab_ok, fun f c h => by cases h⟩
theorem Raat_mbits_Len64 : FnAt Tryd.prog 58 Tryd.f58.ntmps Tryd.f58.results.toList (Tryd.f58.body.getD .skip) := ⟨Tryd.f58, Tryd.func58, rfl, rfl, by simp, by decide⟩
theorem Raeq_mbits_Len64 (post : Int × Unit → Prop) : fnEval Rax_mbits_Len64 noHn Tryd.f58.ntmps Tryd.f58.results.toList (Tryd.f58.body.getD .skip) [.int .u64] [.snap (.int .i64)] ((3 : Int), ()) post = (∃ (h : (0 : Int) ≤ (3 : Int) ∧ (3 : Int) < (256 : Int)), post ((2 : Int), ())) := by kernel_rfl
theorem Rah_mbits_Len64 : Raq_mbits_Len64.holds Tryd.prog RaG 58 := by
  refine det_holds Rax_mbits_Len64_ok Ramixed noHn Raat_mbits_Len64 ?_
  rintro ⟨a, ⟨⟩⟩ h
  have h : a = (3 : Int) := h
  subst h
  exact (Raeq_mbits_Len64 _).mpr ⟨by decide, rfl⟩
def Rax_mbits_Len : Cx := ⟨tabOf Ratab, conOf [(58, Raq_mbits_Len64)], RaG⟩
theorem Rax_mbits_Len_ok : CxOk Tryd.prog Rax_mbits_Len := ⟨tabB_sound Ratab_ok, conOf_sound ⟨Rah_mbits_Len64, trivial⟩⟩
theorem Raat_mbits_Len : FnAt Tryd.prog 80 Tryd.f80.ntmps Tryd.f80.results.toList (Tryd.f80.body.getD .skip) := ⟨Tryd.f80, Tryd.func80, rfl, rfl, by simp, by decide⟩
theorem Raeq_mbits_Len (post : Int × Unit → Prop) : fnEval Rax_mbits_Len noHn Tryd.f80.ntmps Tryd.f80.results.toList (Tryd.f80.body.getD .skip) [.int .u64] [.snap (.int .i64)] ((3 : Int), ()) post = (∃ (h : IsThree 3), post ((2 : Int), ())) := by kernel_rfl
theorem Rah_mbits_Len : Raq_mbits_Len.holds Tryd.prog RaG 80 := by
  refine det_holds Rax_mbits_Len_ok Ramixed noHn Raat_mbits_Len ?_
  rintro ⟨a, ⟨⟩⟩ h
  have h : a = (3 : Int) := h
  subst h
  exact (Raeq_mbits_Len _).mpr ⟨rfl, rfl⟩
def Rax_sum_Three : Cx := ⟨tabOf Ratab, conOf [(69, Raq_sum_Three_c1), (74, Raq_sum_row), (80, Raq_mbits_Len)], RaG⟩
theorem Rax_sum_Three_ok : CxOk Tryd.prog Rax_sum_Three := ⟨tabB_sound Ratab_ok, conOf_sound ⟨Rah_sum_Three_c1, Rah_sum_row, Rah_mbits_Len, trivial⟩⟩
theorem Raat_sum_Three : FnAt Tryd.prog 61 Tryd.f61.ntmps Tryd.f61.results.toList (Tryd.f61.body.getD .skip) := ⟨Tryd.f61, Tryd.func61, rfl, rfl, by simp, by decide⟩
theorem Raeq_sum_Three (a : Nat) (b : Nat) (c : Nat) (post : Nat × Unit → Prop) : fnEvalI Rax_sum_Three Rahn_sum_Three (callLvl Rax_sum_Three Rafns_sort3 5) Tryd.f61.ntmps Tryd.f61.results.toList (Tryd.f61.body.getD .skip) [.flt .f64, .flt .f64, .flt .f64] [.snap (.flt .f64)] (a, b, c, ()) post = Fx_sum_Three  a b c post := by kernel_rfl
theorem Rah_sum_Three : Raq_sum_Three.holds Tryd.prog RaG 61 :=
  detPI Rax_sum_Three_ok Ramixed Rahn_sum_Three (callLvl_ok Rax_sum_Three_ok Ramixed Rafns_sort3_ok 5) Raat_sum_Three (F := fun x post => Fx_sum_Three  x.1 x.2.1 x.2.2.1 post) (fun x post => Raeq_sum_Three x.1 x.2.1 x.2.2.1 post) fun x h _ => Lx_sum_Three  x.1 x.2.1 x.2.2.1 h
end Go.Lift

set_option linter.unusedVariables false
set_option linter.unusedSimpArgs false
namespace Go.Lift
open Go.Proofs
def Rax_mbits_Mul64 : Cx := ⟨tabOf Ratab, conOf [], RaG⟩
theorem Rax_mbits_Mul64_ok : CxOk Tryd.prog Rax_mbits_Mul64 := ⟨tabB_sound Ratab_ok, fun f c h => by cases h⟩
theorem Raat_mbits_Mul64 : FnAt Tryd.prog 30 Tryd.f30.ntmps Tryd.f30.results.toList (Tryd.f30.body.getD .skip) := ⟨Tryd.f30, Tryd.func30, rfl, rfl, by simp, by decide⟩
theorem Raeq_mbits_Mul64 (a : Int) (b : Int) (post : Int × Int × Unit → Prop) : fnEval Rax_mbits_Mul64 nHn Tryd.f30.ntmps Tryd.f30.results.toList (Tryd.f30.body.getD .skip) [.int .u64, .int .u64] [.snap (.int .u64), .snap (.int .u64)] (a, b, ()) post = Fx_mbits_Mul64  a b post := by kernel_rfl
theorem Rah_mbits_Mul64 : Raq_mbits_Mul64.holds Tryd.prog RaG 30 :=
  detP Rax_mbits_Mul64_ok Ramixed nHn Raat_mbits_Mul64 (F := fun x post => Fx_mbits_Mul64  x.1 x.2.1 post) (fun x post => Raeq_mbits_Mul64 x.1 x.2.1 post) fun x h _ => Lx_mbits_Mul64  x.1 x.2.1 h
def Ray_len : Cx := ⟨tabOf Ratab, fun _ => none, RaG⟩
theorem Ray_len_ok : CxOk Tryd.prog Ray_len := ⟨tabB_sound Ratab_ok, fun f c h => by cases h⟩
def Raq_len64 : Con := .det [.int .u64] [.snap (.int .i64)] (fun x => U64 x.1) (fun x => (len64 x.1, ()))
theorem Raat_len64 : FnAt Tryd.prog 58 Tryd.f58.ntmps Tryd.f58.results.toList (Tryd.f58.body.getD .skip) := ⟨Tryd.f58, Tryd.func58, rfl, rfl, by simp, by decide⟩
theorem Raeq_len64 (a : Int) (post : Int × Unit → Prop) : fnEval Ray_len noHnP Tryd.f58.ntmps Tryd.f58.results.toList (Tryd.f58.body.getD .skip) [.int .u64] [.snap (.int .i64)] (a, ()) post = F22 a post := by kernel_rfl
theorem Rah_len64 : Raq_len64.holds Tryd.prog RaG 58 := detP Ray_len_ok Ramixed noHnP Raat_len64 (F := fun x post => F22 x.1 post) (fun x post => Raeq_len64 x.1 post) fun x h _ => len64_eval h.1 h.2 rfl
def Rax_mbits_LeadingZeros64 : Cx := ⟨tabOf Ratab, conOf [(58, Raq_len64)], RaG⟩
theorem Rax_mbits_LeadingZeros64_ok : CxOk Tryd.prog Rax_mbits_LeadingZeros64 := ⟨tabB_sound Ratab_ok, conOf_sound ⟨Rah_len64, trivial⟩⟩
theorem Raat_mbits_LeadingZeros64 : FnAt Tryd.prog 48 Tryd.f48.ntmps Tryd.f48.results.toList (Tryd.f48.body.getD .skip) := ⟨Tryd.f48, Tryd.func48, rfl, rfl, by simp, by decide⟩
theorem Raeq_mbits_LeadingZeros64 (a : Int) (post : Int × Unit → Prop) : fnEval Rax_mbits_LeadingZeros64 noHnP Tryd.f48.ntmps Tryd.f48.results.toList (Tryd.f48.body.getD .skip) [.int .u64] [.snap (.int .i64)] (a, ()) post = F21 a post := by kernel_rfl
theorem Rah_mbits_LeadingZeros64 : Raq_mbits_LeadingZeros64.holds Tryd.prog RaG 48 := detP Rax_mbits_LeadingZeros64_ok Ramixed noHnP Raat_mbits_LeadingZeros64 (F := fun x post => F21 x.1 post) (fun x post => Raeq_mbits_LeadingZeros64 x.1 post) fun x h _ => lz_eval h
def Rax_mbits_Div64 : Cx := ⟨tabOf Ratab, conOf [(48, Raq_mbits_LeadingZeros64)], RaG⟩
theorem Rax_mbits_Div64_ok : CxOk Tryd.prog Rax_mbits_Div64 := ⟨tabB_sound Ratab_ok, conOf_sound ⟨Rah_mbits_LeadingZeros64, trivial⟩⟩
theorem Raat_mbits_Div64 : FnAt Tryd.prog 31 Tryd.f31.ntmps Tryd.f31.results.toList (Tryd.f31.body.getD .skip) := ⟨Tryd.f31, Tryd.func31, rfl, rfl, by simp, by decide⟩
theorem Raeq_mbits_Div64 (a : Int) (b : Int) (c : Int) (post : Int × Int × Unit → Prop) : fnEval Rax_mbits_Div64 Rahn_mbits_Div64 Tryd.f31.ntmps Tryd.f31.results.toList (Tryd.f31.body.getD .skip) [.int .u64, .int .u64, .int .u64] [.snap (.int .u64), .snap (.int .u64)] (a, b, c, ()) post = Fx_mbits_Div64  a b c post := by kernel_rfl
theorem Rah_mbits_Div64 : Raq_mbits_Div64.holds Tryd.prog RaG 31 :=
  detP Rax_mbits_Div64_ok Ramixed Rahn_mbits_Div64 Raat_mbits_Div64 (F := fun x post => Fx_mbits_Div64  x.1 x.2.1 x.2.2.1 post) (fun x post => Raeq_mbits_Div64 x.1 x.2.1 x.2.2.1 post) fun x h _ => Lx_mbits_Div64  x.1 x.2.1 x.2.2.1 h
def Rax_share_Part : Cx := ⟨tabOf Ratab, conOf [(30, Raq_mbits_Mul64), (31, Raq_mbits_Div64)], RaG⟩
theorem Rax_share_Part_ok : CxOk Tryd.prog Rax_share_Part := ⟨tabB_sound Ratab_ok, conOf_sound ⟨Rah_mbits_Mul64, Rah_mbits_Div64, trivial⟩⟩
theorem Raat_share_Part : FnAt Tryd.prog 19 Tryd.f19.ntmps Tryd.f19.results.toList (Tryd.f19.body.getD .skip) := ⟨Tryd.f19, Tryd.func19, rfl, rfl, by simp, by decide⟩
theorem Raeq_share_Part (a : Int) (b : Int) (c : Int) (post : Int × Unit → Prop) : fnEval Rax_share_Part Rahn_share_Part Tryd.f19.ntmps Tryd.f19.results.toList (Tryd.f19.body.getD .skip) [.int .i64, .int .i64, .int .i64] [.snap (.int .i64)] (a, b, c, ()) post = Fx_share_Part  a b c post := by kernel_rfl
theorem Rah_share_Part : Raq_share_Part.holds Tryd.prog RaG 19 :=
  detP Rax_share_Part_ok Ramixed Rahn_share_Part Raat_share_Part (F := fun x post => Fx_share_Part  x.1 x.2.1 x.2.2.1 post) (fun x post => Raeq_share_Part x.1 x.2.1 x.2.2.1 post) fun x h _ => Lx_share_Part  x.1 x.2.1 x.2.2.1 h
end Go.Lift

set_option linter.unusedVariables false
set_option linter.unusedSimpArgs false
namespace Go.Lift
open Go.Proofs
def Rax_share_Cut : Cx := ⟨tabOf Ratab, conOf [(19, Raq_share_Part)], RaG⟩
theorem Rax_share_Cut_ok : CxOk Tryd.prog Rax_share_Cut := ⟨tabB_sound Ratab_ok, conOf_sound ⟨Rah_share_Part, trivial⟩⟩
theorem Raat_share_Cut : FnAt Tryd.prog 14 Tryd.f14.ntmps Tryd.f14.results.toList (Tryd.f14.body.getD .skip) := ⟨Tryd.f14, Tryd.func14, rfl, rfl, by simp, by decide⟩
theorem Raeq_share_Cut (a : Int) (c : List Int) (post : (List Int) × Int × Unit → Prop) : fnEval Rax_share_Cut Rahn_share_Cut Tryd.f14.ntmps Tryd.f14.results.toList (Tryd.f14.body.getD .skip) [.int .i64, .slice (.int .i64)] [.own 2 (.int .i64), .snap (.int .i64)] (a, c, ()) post = Fx_share_Cut 2 a c post := by kernel_rfl
theorem Rah_share_Cut : Raq_share_Cut.holds Tryd.prog RaG 14 :=
  detP Rax_share_Cut_ok Ramixed Rahn_share_Cut Raat_share_Cut (F := fun x post => Fx_share_Cut 2 x.1 x.2.1 post) (fun x post => Raeq_share_Cut x.1 x.2.1 post) fun x h _ => Lx_share_Cut 2 x.1 x.2.1 h
end Go.Lift

set_option linter.unusedVariables false
set_option linter.unusedSimpArgs false
namespace Go.Lift
def Fx_law14_same := fun (a b : List Int) (post : Bool × Unit → Prop) => ∀ (a_1 : Bool), a_1 = ((↑a.length : Int) != (↑b.length : Int)) → Br a_1 (post (Bool.false, ())) (HIs [] [] ∧
  ∃ (I : Int × Unit → Unit → Prop), ∃ (μ : Int × Unit → Unit → Nat), I ((0 : Int), ()) () ∧ ∀ (x : Int × Unit) (y : Unit), I x y → ∀ (a_2 : Bool), a_2 = decide (x.fst < (↑a.length :
  Int)) → Br a_2 (∃ (h : (0 : Int) ≤ x.fst ∧ x.fst < (↑a.length : Int)), ∃ (h : (0 : Int) ≤ x.fst ∧ x.fst < (↑b.length : Int)), ∀ (a_3 : Bool), a_3 = (a.getD x.fst.toNat (0 : Int)
  != b.getD x.fst.toNat (0 : Int)) → Br a_3 (post (Bool.false, ())) (HIs [] [] ∧ I (IntKind.i64.wrap (x.fst + (1 : Int)), ()) () ∧ μ (IntKind.i64.wrap (x.fst + (1 : Int)), ()) () <
  μ x y)) (post (Bool.true, ())))
theorem Lx_law14_same (a : List Int) (b : List Int) (w : KS.wf [.slice (.int .i64), .slice (.int .i64)] (a, b, ())) : Fx_law14_same  a b (fun r => r = intsR a b) := by
  have ha : a.length ≤ maxN := w.1.1
  have hm : maxN ≤ 9223372036854775807 := by decide
  rintro _ rfl
  refine Br.intro (fun e => congrArg r1 ?_) fun e => ?_
  · have e : ¬ a.length = b.length := fun q => by rw [q] at e; simp at e
    exact (beq_eq_false_iff_ne.2 fun q => e (congrArg List.length q)).symm
  have e : a.length = b.length := by
    have : ((a.length : Int) == (b.length : Int)) = true := by
      have e : (!((a.length : Int) == (b.length : Int))) = false := e
      simpa using e
    have := beq_iff_eq.1 this
    omega
  refine ⟨rfl, fun x _ => ∃ k : Nat, x.1 = k ∧ k ≤ a.length ∧ a.take k = b.take k, fun x _ => a.length - x.1.toNat, ⟨0, rfl, by omega, rfl⟩, ?_⟩
  rintro ⟨_, ⟨⟩⟩ _ ⟨k, rfl, hk, hq⟩
  dsimp only
  rintro _ rfl
  refine Br.intro (fun e1 => ?_) fun e1 => ?_
  · have e1 : k < a.length := by have := of_decide_eq_true e1; omega
    rw [Int.toNat_natCast, wi_succ e1 (by omega)]
    have ta := take_step e1 0
    have tb := take_step (l := b) (i := k) (by omega) 0
    refine ⟨⟨by omega, by omega⟩, ⟨by omega, by omega⟩, ?_⟩
    rintro _ rfl
    refine Br.intro (fun e2 => congrArg r1 ?_) fun e2 => ?_
    · have e2 : ¬ a.getD k 0 = b.getD k 0 := bne_iff_ne.1 e2
      refine (beq_eq_false_iff_ne.2 fun q => e2 ?_).symm
      rw [q]
    · have e2 : a.getD k 0 = b.getD k 0 := by
        have e2 : (!(a.getD k 0 == b.getD k 0)) = false := e2
        simpa using e2
      exact ⟨rfl, ⟨k + 1, rfl, by omega, by rw [ta, tb, hq, e2]⟩, by omega⟩
  · have e1 : k = a.length := by have := of_decide_eq_false e1; omega
    subst e1
    refine congrArg r1 (beq_iff_eq.2 ?_).symm
    rw [List.take_length] at hq
    rw [hq, e, List.take_length]
end Go.Lift

set_option linter.unusedVariables false
set_option linter.unusedSimpArgs false
namespace Go.Lift
open Go.Proofs
def Rax_law14_same : Cx := ⟨tabOf Ratab, conOf [], RaG⟩
theorem Rax_law14_same_ok : CxOk Tryd.prog Rax_law14_same := ⟨tabB_sound Ratab_ok, fun f c h => by cases h⟩
theorem Raat_law14_same : FnAt Tryd.prog 15 Tryd.f15.ntmps Tryd.f15.results.toList (Tryd.f15.body.getD .skip) := ⟨Tryd.f15, Tryd.func15, rfl, rfl, by simp, by decide⟩
theorem Raeq_law14_same (a : List Int) (b : List Int) (post : Bool × Unit → Prop) : fnEval Rax_law14_same Rahn_law14_same Tryd.f15.ntmps Tryd.f15.results.toList (Tryd.f15.body.getD .skip) [.slice (.int .i64), .slice (.int .i64)] [.snap .bool] (a, b, ()) post = Fx_law14_same  a b post := by kernel_rfl
theorem Rah_law14_same : Raq_law14_same.holds Tryd.prog RaG 15 :=
  nam_of_det (detP Rax_law14_same_ok Ramixed Rahn_law14_same Raat_law14_same (F := fun x post => Fx_law14_same  x.1 x.2.1 post) (fun x post => Raeq_law14_same x.1 x.2.1 post) fun x _ w => Lx_law14_same  x.1 x.2.1 w)
end Go.Lift

set_option linter.unusedVariables false
set_option linter.unusedSimpArgs false
namespace Go.Lift
open Go.Proofs
def Rax_law14_awake : Cx := ⟨tabOf Ratab, conOf [(14, Raq_share_Cut), (19, Raq_share_Part), (15, Raq_law14_same)], RaG⟩
theorem Rax_law14_awake_ok : CxOk Tryd.prog Rax_law14_awake := ⟨tabB_sound Ratab_ok, conOf_sound ⟨Rah_share_Cut, Rah_share_Part, Rah_law14_same, trivial⟩⟩
theorem Raat_law14_awake : FnAt Tryd.prog 7 Tryd.f7.ntmps Tryd.f7.results.toList (Tryd.f7.body.getD .skip) := ⟨Tryd.f7, Tryd.func7, rfl, rfl, by simp, by decide⟩
theorem Raeq_law14_awake  (post : Bool × Unit → Prop) : fnEval Rax_law14_awake Rahn_law14_awake Tryd.f7.ntmps Tryd.f7.results.toList (Tryd.f7.body.getD .skip) [] [.snap .bool] (()) post = Fx_law14_awake   post := by kernel_rfl
theorem Rah_law14_awake : Raq_law14_awake.holds Tryd.prog RaG 7 :=
  detP Rax_law14_awake_ok Ramixed Rahn_law14_awake Raat_law14_awake (F := fun x post => Fx_law14_awake   post) (fun x post => Raeq_law14_awake  post) fun x _ _ => Lx_law14_awake
end Go.Lift

set_option linter.unusedVariables false
set_option linter.unusedSimpArgs false
namespace Go.Lift
def Fx_grid_New := fun (ty122 ty123 ty2 ty126 fn86 fn87 : Nat) (n : Int) (post : Option (Int × List (Int × Int × Int × Int) × List ((Int × Int) × Int) × List (List Int) × List Int ×
  List Nat × List Nat) × Int × Unit → Prop) => ∃ (h : I64 n), Br ((cellsR n).fst == (0 : Int)) (post (Option.none, (10 : Int), ())) (∃ (h : (0 : Int) ≤ (0 : Int) ∧ (0 : Int) < (↑(2
  : Nat) : Int)), HIs [HObj.mp Md.rw ((K.int IntKind.i64).pair (K.int IntKind.i64)) (K.int IntKind.i64) [], HObj.box Md.rw ty122 [SV.val (Go.Value.int IntKind.i64 n), SV.junk,
  SV.mref (0 : Nat), SV.val (Go.Value.slice Option.none (0 : Nat) (0 : Nat)), SV.junk, SV.val (Go.Value.slice Option.none (0 : Nat) (0 : Nat)), SV.val (Go.Value.slice Option.none (0
  : Nat) (0 : Nat))], HObj.box Md.rw ty123 [SV.clo fn86 [LV.ref (1 : Nat) (0 : Nat)] [], SV.clo fn87 [LV.ref (1 : Nat) (0 : Nat)] []]] [HObj.mp Md.rw ((K.int IntKind.i64).pair
  (K.int IntKind.i64)) (K.int IntKind.i64) [], HObj.box Md.rw ty122 [SV.val (Go.Value.int IntKind.i64 n), SV.junk, SV.mref (0 : Nat), SV.val (Go.Value.slice Option.none (0 : Nat) (0
  : Nat)), SV.junk, SV.val (Go.Value.slice Option.none (0 : Nat) (0 : Nat)), SV.val (Go.Value.slice Option.none (0 : Nat) (0 : Nat))], HObj.box Md.rw ty123 [SV.clo fn86 [LV.ref (1 :
  Nat) (0 : Nat)] [], SV.clo fn87 [LV.ref (1 : Nat) (0 : Nat)] []]] ∧ ∃ (I : Int × List (Int × Int × Int × Int) × List Int × Unit → List ((Int × Int) × Int) × Unit → Prop), ∃ (μ :
  Int × List (Int × Int × Int × Int) × List Int × Unit → List ((Int × Int) × Int) × Unit → Nat), I ((0 : Int), [], [], ()) ([], ()) ∧ ∀ (x : Int × List (Int × Int × Int × Int) ×
  List Int × Unit) (y : List ((Int × Int) × Int) × Unit), I x y → Br (decide (x.fst < (cellsR n).fst)) (((0 : Nat) = (0 : Nat) ∧ x.snd.fst.length = x.snd.fst.length) ∧ HIs [HObj.mp
  Md.rw ((K.int IntKind.i64).pair (K.int IntKind.i64)) (K.int IntKind.i64) y.fst, HObj.box Md.rw ty122 [SV.val (Go.Value.int IntKind.i64 n), SV.junk, SV.mref (0 : Nat), SV.val
  (Go.Value.slice Option.none (0 : Nat) (0 : Nat)), SV.osl (4 : Nat) (0 : Nat) x.snd.snd.fst.length, SV.val (Go.Value.slice Option.none (0 : Nat) (0 : Nat)), SV.val (Go.Value.slice
  Option.none (0 : Nat) (0 : Nat))], HObj.box Md.rw ty123 [SV.clo fn86 [LV.ref (1 : Nat) (0 : Nat)] [], SV.clo fn87 [LV.ref (1 : Nat) (0 : Nat)] []], HObj.dead, HObj.row Md.rw ty2
  (K.int IntKind.i64) x.snd.snd.fst] [HObj.mp Md.rw ((K.int IntKind.i64).pair (K.int IntKind.i64)) (K.int IntKind.i64) y.fst, HObj.box Md.rw ty122 [SV.val (Go.Value.int IntKind.i64
  n), SV.junk, SV.mref (0 : Nat), SV.val (Go.Value.slice Option.none (0 : Nat) (0 : Nat)), SV.osl (4 : Nat) (0 : Nat) x.snd.snd.fst.length, SV.val (Go.Value.slice Option.none (0 :
  Nat) (0 : Nat)), SV.val (Go.Value.slice Option.none (0 : Nat) (0 : Nat))], HObj.box Md.rw ty123 [SV.clo fn86 [LV.ref (1 : Nat) (0 : Nat)] [], SV.clo fn87 [LV.ref (1 : Nat) (0 :
  Nat)] []], HObj.dead, HObj.row Md.rw ty2 (K.int IntKind.i64) x.snd.snd.fst] ∧ ∃ (I_1 : Int × List (Int × Int × Int × Int) × Unit → List ((Int × Int) × Int) × Unit → Prop), ∃ (μ_1
  : Int × List (Int × Int × Int × Int) × Unit → List ((Int × Int) × Int) × Unit → Nat), I_1 ((0 : Int), x.snd.fst, ()) (y.fst, ()) ∧ ∀ (x_2 : Int × List (Int × Int × Int × Int) ×
  Unit) (y_1 : List ((Int × Int) × Int) × Unit), I_1 x_2 y_1 → Br (decide (x_2.fst < (4 : Int))) (∃ (h : III n x.fst x_2.fst), ∀ (a : Int × Int × Unit), a = besideR n x.fst x_2.fst
  → Br (decide (x.fst > a.fst)) (((0 : Nat) = (0 : Nat) ∧ x_2.snd.fst.length = x_2.snd.fst.length) ∧ HIs [HObj.mp Md.rw ((K.int IntKind.i64).pair (K.int IntKind.i64)) (K.int
  IntKind.i64) y_1.fst, HObj.box Md.rw ty122 [SV.val (Go.Value.int IntKind.i64 n), SV.junk, SV.mref (0 : Nat), SV.val (Go.Value.slice Option.none (0 : Nat) (0 : Nat)), SV.osl (4 :
  Nat) (0 : Nat) x.snd.snd.fst.length, SV.val (Go.Value.slice Option.none (0 : Nat) (0 : Nat)), SV.val (Go.Value.slice Option.none (0 : Nat) (0 : Nat))], HObj.box Md.rw ty123
  [SV.clo fn86 [LV.ref (1 : Nat) (0 : Nat)] [], SV.clo fn87 [LV.ref (1 : Nat) (0 : Nat)] []], HObj.dead, HObj.row Md.rw ty2 (K.int IntKind.i64) x.snd.snd.fst] [HObj.mp Md.rw ((K.int
  IntKind.i64).pair (K.int IntKind.i64)) (K.int IntKind.i64) y_1.fst, HObj.box Md.rw ty122 [SV.val (Go.Value.int IntKind.i64 n), SV.junk, SV.mref (0 : Nat), SV.val (Go.Value.slice
  Option.none (0 : Nat) (0 : Nat)), SV.osl (4 : Nat) (0 : Nat) x.snd.snd.fst.length, SV.val (Go.Value.slice Option.none (0 : Nat) (0 : Nat)), SV.val (Go.Value.slice Option.none (0 :
  Nat) (0 : Nat))], HObj.box Md.rw ty123 [SV.clo fn86 [LV.ref (1 : Nat) (0 : Nat)] [], SV.clo fn87 [LV.ref (1 : Nat) (0 : Nat)] []], HObj.dead, HObj.row Md.rw ty2 (K.int
  IntKind.i64) x.snd.snd.fst] ∧ I_1 (IntKind.i64.wrap (x_2.fst + (1 : Int)), x_2.snd.fst, ()) (y_1.fst, ()) ∧ μ_1 (IntKind.i64.wrap (x_2.fst + (1 : Int)), x_2.snd.fst, ()) (y_1.fst,
  ()) < μ_1 x_2 y_1) (∃ (h : x_2.snd.fst.length = x_2.snd.fst.length ∧ (x_2.snd.fst.length + (1 : Nat)) * (32 : Nat) ≤ (140737488355328 : Nat)), ((0 : Nat) = (0 : Nat) ∧
  x_2.snd.fst.length + (1 : Nat) = (x_2.snd.fst ++ [(x.fst, x_2.fst, a.fst, a.snd.fst)]).length) ∧ HIs [HObj.mp Md.rw ((K.int IntKind.i64).pair (K.int IntKind.i64)) (K.int
  IntKind.i64) (mput (a.fst, a.snd.fst) (↑x_2.snd.fst.length : Int) (mput (x.fst, x_2.fst) (↑x_2.snd.fst.length : Int) y_1.fst)), HObj.box Md.rw ty122 [SV.val (Go.Value.int
  IntKind.i64 n), SV.junk, SV.mref (0 : Nat), SV.val (Go.Value.slice Option.none (0 : Nat) (0 : Nat)), SV.osl (4 : Nat) (0 : Nat) x.snd.snd.fst.length, SV.val (Go.Value.slice
  Option.none (0 : Nat) (0 : Nat)), SV.val (Go.Value.slice Option.none (0 : Nat) (0 : Nat))], HObj.box Md.rw ty123 [SV.clo fn86 [LV.ref (1 : Nat) (0 : Nat)] [], SV.clo fn87 [LV.ref
  (1 : Nat) (0 : Nat)] []], HObj.dead, HObj.row Md.rw ty2 (K.int IntKind.i64) x.snd.snd.fst] [HObj.mp Md.rw ((K.int IntKind.i64).pair (K.int IntKind.i64)) (K.int IntKind.i64) (mput
  (a.fst, a.snd.fst) (↑x_2.snd.fst.length : Int) (mput (x.fst, x_2.fst) (↑x_2.snd.fst.length : Int) y_1.fst)), HObj.box Md.rw ty122 [SV.val (Go.Value.int IntKind.i64 n), SV.junk,
  SV.mref (0 : Nat), SV.val (Go.Value.slice Option.none (0 : Nat) (0 : Nat)), SV.osl (4 : Nat) (0 : Nat) x.snd.snd.fst.length, SV.val (Go.Value.slice Option.none (0 : Nat) (0 :
  Nat)), SV.val (Go.Value.slice Option.none (0 : Nat) (0 : Nat))], HObj.box Md.rw ty123 [SV.clo fn86 [LV.ref (1 : Nat) (0 : Nat)] [], SV.clo fn87 [LV.ref (1 : Nat) (0 : Nat)] []],
  HObj.dead, HObj.row Md.rw ty2 (K.int IntKind.i64) x.snd.snd.fst] ∧ I_1 (IntKind.i64.wrap (x_2.fst + (1 : Int)), x_2.snd.fst ++ [(x.fst, x_2.fst, a.fst, a.snd.fst)], ()) (mput
  (a.fst, a.snd.fst) (↑x_2.snd.fst.length : Int) (mput (x.fst, x_2.fst) (↑x_2.snd.fst.length : Int) y_1.fst), ()) ∧ μ_1 (IntKind.i64.wrap (x_2.fst + (1 : Int)), x_2.snd.fst ++
  [(x.fst, x_2.fst, a.fst, a.snd.fst)], ()) (mput (a.fst, a.snd.fst) (↑x_2.snd.fst.length : Int) (mput (x.fst, x_2.fst) (↑x_2.snd.fst.length : Int) y_1.fst), ()) < μ_1 x_2 y_1))
  (((0 : Nat) = (0 : Nat) ∧ x_2.snd.fst.length = x_2.snd.fst.length) ∧ ((0 : Nat) = (0 : Nat) ∧ x.snd.snd.fst.length = x.snd.snd.fst.length) ∧ HIs [HObj.mp Md.rw ((K.int
  IntKind.i64).pair (K.int IntKind.i64)) (K.int IntKind.i64) y_1.fst, HObj.box Md.rw ty122 [SV.val (Go.Value.int IntKind.i64 n), SV.junk, SV.mref (0 : Nat), SV.val (Go.Value.slice
  Option.none (0 : Nat) (0 : Nat)), SV.junk, SV.val (Go.Value.slice Option.none (0 : Nat) (0 : Nat)), SV.val (Go.Value.slice Option.none (0 : Nat) (0 : Nat))], HObj.box Md.rw ty123
  [SV.clo fn86 [LV.ref (1 : Nat) (0 : Nat)] [], SV.clo fn87 [LV.ref (1 : Nat) (0 : Nat)] []]] [HObj.mp Md.rw ((K.int IntKind.i64).pair (K.int IntKind.i64)) (K.int IntKind.i64)
  y_1.fst, HObj.box Md.rw ty122 [SV.val (Go.Value.int IntKind.i64 n), SV.junk, SV.mref (0 : Nat), SV.val (Go.Value.slice Option.none (0 : Nat) (0 : Nat)), SV.junk, SV.val
  (Go.Value.slice Option.none (0 : Nat) (0 : Nat)), SV.val (Go.Value.slice Option.none (0 : Nat) (0 : Nat))], HObj.box Md.rw ty123 [SV.clo fn86 [LV.ref (1 : Nat) (0 : Nat)] [],
  SV.clo fn87 [LV.ref (1 : Nat) (0 : Nat)] []]] ∧ I (IntKind.i64.wrap (x.fst + (1 : Int)), x_2.snd.fst, x.snd.snd.fst, ()) (y_1.fst, ()) ∧ μ (IntKind.i64.wrap (x.fst + (1 : Int)),
  x_2.snd.fst, x.snd.snd.fst, ()) (y_1.fst, ()) < μ x y)) (∃ (h : (0 : Int) ≤ IntKind.i64.wrap ((0 : Int) + (1 : Int)) ∧ IntKind.i64.wrap ((0 : Int) + (1 : Int)) < (↑(2 : Nat) :
  Int)), ((0 : Nat) = (0 : Nat) ∧ x.snd.fst.length = x.snd.fst.length) ∧ ((0 : Nat) = (0 : Nat) ∧ x.snd.snd.fst.length = x.snd.snd.fst.length) ∧ HIs [HObj.mp Md.rw ((K.int
  IntKind.i64).pair (K.int IntKind.i64)) (K.int IntKind.i64) y.fst, HObj.box Md.rw ty122 [SV.val (Go.Value.int IntKind.i64 n), SV.junk, SV.mref (0 : Nat), SV.val (Go.Value.slice
  Option.none (0 : Nat) (0 : Nat)), SV.junk, SV.val (Go.Value.slice Option.none (0 : Nat) (0 : Nat)), SV.val (Go.Value.slice Option.none (0 : Nat) (0 : Nat))], HObj.box Md.rw ty123
  [SV.clo fn86 [LV.ref (1 : Nat) (0 : Nat)] [], SV.clo fn87 [LV.ref (1 : Nat) (0 : Nat)] []], HObj.dead, HObj.dead] [HObj.mp Md.rw ((K.int IntKind.i64).pair (K.int IntKind.i64))
  (K.int IntKind.i64) y.fst, HObj.box Md.rw ty122 [SV.val (Go.Value.int IntKind.i64 n), SV.junk, SV.mref (0 : Nat), SV.val (Go.Value.slice Option.none (0 : Nat) (0 : Nat)), SV.junk,
  SV.val (Go.Value.slice Option.none (0 : Nat) (0 : Nat)), SV.val (Go.Value.slice Option.none (0 : Nat) (0 : Nat))], HObj.box Md.rw ty123 [SV.clo fn86 [LV.ref (1 : Nat) (0 : Nat)]
  [], SV.clo fn87 [LV.ref (1 : Nat) (0 : Nat)] []], HObj.dead, HObj.dead] ∧ ∃ (I : Int × List (Int × Int × Int × Int) × List Int × Unit → List ((Int × Int) × Int) × Unit → Prop), ∃
  (μ : Int × List (Int × Int × Int × Int) × List Int × Unit → List ((Int × Int) × Int) × Unit → Nat), I ((0 : Int), x.snd.fst, x.snd.snd.fst, ()) (y.fst, ()) ∧ ∀ (x : Int × List
  (Int × Int × Int × Int) × List Int × Unit) (y : List ((Int × Int) × Int) × Unit), I x y → Br (decide (x.fst < (cellsR n).fst)) (∃ (h : II n x.fst), ∃ (h : x.snd.snd.fst.length =
  x.snd.snd.fst.length ∧ (x.snd.snd.fst.length + (1 : Nat)) * (8 : Nat) ≤ (140737488355328 : Nat)), ((0 : Nat) = (0 : Nat) ∧ x.snd.fst.length = x.snd.fst.length) ∧ ((0 : Nat) = (0 :
  Nat) ∧ x.snd.snd.fst.length + (1 : Nat) = (x.snd.snd.fst ++ [(areaR n x.fst).fst]).length) ∧ HIs [HObj.mp Md.rw ((K.int IntKind.i64).pair (K.int IntKind.i64)) (K.int IntKind.i64)
  y.fst, HObj.box Md.rw ty122 [SV.val (Go.Value.int IntKind.i64 n), SV.junk, SV.mref (0 : Nat), SV.val (Go.Value.slice Option.none (0 : Nat) (0 : Nat)), SV.junk, SV.val
  (Go.Value.slice Option.none (0 : Nat) (0 : Nat)), SV.val (Go.Value.slice Option.none (0 : Nat) (0 : Nat))], HObj.box Md.rw ty123 [SV.clo fn86 [LV.ref (1 : Nat) (0 : Nat)] [],
  SV.clo fn87 [LV.ref (1 : Nat) (0 : Nat)] []], HObj.dead, HObj.dead] [HObj.mp Md.rw ((K.int IntKind.i64).pair (K.int IntKind.i64)) (K.int IntKind.i64) y.fst, HObj.box Md.rw ty122
  [SV.val (Go.Value.int IntKind.i64 n), SV.junk, SV.mref (0 : Nat), SV.val (Go.Value.slice Option.none (0 : Nat) (0 : Nat)), SV.junk, SV.val (Go.Value.slice Option.none (0 : Nat) (0
  : Nat)), SV.val (Go.Value.slice Option.none (0 : Nat) (0 : Nat))], HObj.box Md.rw ty123 [SV.clo fn86 [LV.ref (1 : Nat) (0 : Nat)] [], SV.clo fn87 [LV.ref (1 : Nat) (0 : Nat)] []],
  HObj.dead, HObj.dead] ∧ I (IntKind.i64.wrap (x.fst + (1 : Int)), x.snd.fst, x.snd.snd.fst ++ [(areaR n x.fst).fst], ()) (y.fst, ()) ∧ μ (IntKind.i64.wrap (x.fst + (1 : Int)),
  x.snd.fst, x.snd.snd.fst ++ [(areaR n x.fst).fst], ()) (y.fst, ()) < μ x y) (HIs [HObj.mp Md.rw ((K.int IntKind.i64).pair (K.int IntKind.i64)) (K.int IntKind.i64) y.fst, HObj.box
  Md.rw ty122 [SV.val (Go.Value.int IntKind.i64 n), SV.osl (5 : Nat) (0 : Nat) x.snd.fst.length, SV.mref (0 : Nat), SV.junk, SV.osl (6 : Nat) (0 : Nat) x.snd.snd.fst.length,
  SV.junk, SV.junk], HObj.box Md.rw ty123 [SV.clo fn86 [LV.ref (1 : Nat) (0 : Nat)] [], SV.clo fn87 [LV.ref (1 : Nat) (0 : Nat)] []], HObj.dead, HObj.dead, HObj.row Md.rw ty126
  ((K.int IntKind.i64).pair ((K.int IntKind.i64).pair ((K.int IntKind.i64).pair (K.int IntKind.i64)))) x.snd.fst, HObj.row Md.rw ty2 (K.int IntKind.i64) x.snd.snd.fst] [HObj.mp
  Md.rw ((K.int IntKind.i64).pair (K.int IntKind.i64)) (K.int IntKind.i64) y.fst, HObj.box Md.rw ty122 [SV.val (Go.Value.int IntKind.i64 n), SV.osl (5 : Nat) (0 : Nat)
  x.snd.fst.length, SV.mref (0 : Nat), SV.junk, SV.osl (6 : Nat) (0 : Nat) x.snd.snd.fst.length, SV.junk, SV.junk], HObj.box Md.rw ty123 [SV.clo fn86 [LV.ref (1 : Nat) (0 : Nat)]
  [], SV.clo fn87 [LV.ref (1 : Nat) (0 : Nat)] []], HObj.dead, HObj.dead, HObj.row Md.rw ty126 ((K.int IntKind.i64).pair ((K.int IntKind.i64).pair ((K.int IntKind.i64).pair (K.int
  IntKind.i64)))) x.snd.fst, HObj.row Md.rw ty2 (K.int IntKind.i64) x.snd.snd.fst] ∧ ∃ (I : Int × List (List Int) × List Nat × List Nat × Unit → Unit → Prop), ∃ (μ : Int × List
  (List Int) × List Nat × List Nat × Unit → Unit → Nat), I ((0 : Int), [], [], [], ()) () ∧ ∀ (x_3 : Int × List (List Int) × List Nat × List Nat × Unit) (y_1 : Unit), I x_3 y_1 → Br
  (decide (x_3.fst < (↑x.snd.fst.length : Int))) (∃ (h : (0 : Int) ≤ x_3.fst ∧ x_3.fst < (↑x.snd.fst.length : Int)), ∃ (h : (4 : Int) ≠ (0 : Int)), ∃ (h : III n (x.snd.fst.getD ((0
  : Nat) + x_3.fst.toNat) kEdge.dflt).fst ((IntKind.i64.wrap ((x.snd.fst.getD ((0 : Nat) + x_3.fst.toNat) kEdge.dflt).snd.fst + (2 : Int))).tmod (4 : Int))), ∀ (a : Int × Int ×
  Unit), a = besideR n (x.snd.fst.getD ((0 : Nat) + x_3.fst.toNat) kEdge.dflt).fst ((IntKind.i64.wrap ((x.snd.fst.getD ((0 : Nat) + x_3.fst.toNat) kEdge.dflt).snd.fst + (2 :
  Int))).tmod (4 : Int)) → ∃ (h : (4 : Int) ≠ (0 : Int)), ∃ (h : III n (x.snd.fst.getD ((0 : Nat) + x_3.fst.toNat) kEdge.dflt).snd.snd.fst ((IntKind.i64.wrap ((x.snd.fst.getD ((0 :
  Nat) + x_3.fst.toNat) kEdge.dflt).snd.snd.snd + (2 : Int))).tmod (4 : Int))), ∀ (a_1 : Int × Int × Unit), a_1 = besideR n (x.snd.fst.getD ((0 : Nat) + x_3.fst.toNat)
  kEdge.dflt).snd.snd.fst ((IntKind.i64.wrap ((x.snd.fst.getD ((0 : Nat) + x_3.fst.toNat) kEdge.dflt).snd.snd.snd + (2 : Int))).tmod (4 : Int)) → ∃ (h : x_3.snd.fst.length =
  x_3.snd.fst.length ∧ (x_3.snd.fst.length + (1 : Nat)) * (16 : Nat) ≤ (140737488355328 : Nat)), ∃ (h : III n (x.snd.fst.getD ((0 : Nat) + x_3.fst.toNat) kEdge.dflt).fst
  (x.snd.fst.getD ((0 : Nat) + x_3.fst.toNat) kEdge.dflt).snd.fst), ∀ (a_2 : Nat × Unit), a_2 = lengthGR n (x.snd.fst.getD ((0 : Nat) + x_3.fst.toNat) kEdge.dflt).fst
  (x.snd.fst.getD ((0 : Nat) + x_3.fst.toNat) kEdge.dflt).snd.fst → ∃ (h : x_3.snd.snd.fst.length = x_3.snd.snd.fst.length ∧ (x_3.snd.snd.fst.length + (1 : Nat)) * (8 : Nat) ≤
  (140737488355328 : Nat)), ∃ (h : III n (x.snd.fst.getD ((0 : Nat) + x_3.fst.toNat) kEdge.dflt).fst (x.snd.fst.getD ((0 : Nat) + x_3.fst.toNat) kEdge.dflt).snd.fst), ∀ (a_3 : Nat ×
  Unit), a_3 = gapGR n (x.snd.fst.getD ((0 : Nat) + x_3.fst.toNat) kEdge.dflt).fst (x.snd.fst.getD ((0 : Nat) + x_3.fst.toNat) kEdge.dflt).snd.fst → ∃ (h :
  x_3.snd.snd.snd.fst.length = x_3.snd.snd.snd.fst.length ∧ (x_3.snd.snd.snd.fst.length + (1 : Nat)) * (8 : Nat) ≤ (140737488355328 : Nat)), ((0 : Nat) = (0 : Nat) ∧
  x_3.snd.fst.length + (1 : Nat) = (x_3.snd.fst ++ [[a.fst, a_1.fst]]).length) ∧ ((0 : Nat) = (0 : Nat) ∧ x_3.snd.snd.fst.length + (1 : Nat) = (x_3.snd.snd.fst ++ [a_2.fst]).length)
  ∧ ((0 : Nat) = (0 : Nat) ∧ x_3.snd.snd.snd.fst.length + (1 : Nat) = (x_3.snd.snd.snd.fst ++ [a_3.fst]).length) ∧ HIs [HObj.mp Md.rw ((K.int IntKind.i64).pair (K.int IntKind.i64))
  (K.int IntKind.i64) y.fst, HObj.box Md.rw ty122 [SV.val (Go.Value.int IntKind.i64 n), SV.osl (5 : Nat) (0 : Nat) x.snd.fst.length, SV.mref (0 : Nat), SV.junk, SV.osl (6 : Nat) (0
  : Nat) x.snd.snd.fst.length, SV.junk, SV.junk], HObj.box Md.rw ty123 [SV.clo fn86 [LV.ref (1 : Nat) (0 : Nat)] [], SV.clo fn87 [LV.ref (1 : Nat) (0 : Nat)] []], HObj.dead,
  HObj.dead, HObj.row Md.rw ty126 ((K.int IntKind.i64).pair ((K.int IntKind.i64).pair ((K.int IntKind.i64).pair (K.int IntKind.i64)))) x.snd.fst, HObj.row Md.rw ty2 (K.int
  IntKind.i64) x.snd.snd.fst] [HObj.mp Md.rw ((K.int IntKind.i64).pair (K.int IntKind.i64)) (K.int IntKind.i64) y.fst, HObj.box Md.rw ty122 [SV.val (Go.Value.int IntKind.i64 n),
  SV.osl (5 : Nat) (0 : Nat) x.snd.fst.length, SV.mref (0 : Nat), SV.junk, SV.osl (6 : Nat) (0 : Nat) x.snd.snd.fst.length, SV.junk, SV.junk], HObj.box Md.rw ty123 [SV.clo fn86
  [LV.ref (1 : Nat) (0 : Nat)] [], SV.clo fn87 [LV.ref (1 : Nat) (0 : Nat)] []], HObj.dead, HObj.dead, HObj.row Md.rw ty126 ((K.int IntKind.i64).pair ((K.int IntKind.i64).pair
  ((K.int IntKind.i64).pair (K.int IntKind.i64)))) x.snd.fst, HObj.row Md.rw ty2 (K.int IntKind.i64) x.snd.snd.fst] ∧ I (IntKind.i64.wrap (x_3.fst + (1 : Int)), x_3.snd.fst ++
  [[a.fst, a_1.fst]], x_3.snd.snd.fst ++ [a_2.fst], x_3.snd.snd.snd.fst ++ [a_3.fst], ()) () ∧ μ (IntKind.i64.wrap (x_3.fst + (1 : Int)), x_3.snd.fst ++ [[a.fst, a_1.fst]],
  x_3.snd.snd.fst ++ [a_2.fst], x_3.snd.snd.snd.fst ++ [a_3.fst], ()) () < μ x_3 y_1) (post (Option.some (n, List.take x.snd.fst.length (List.drop (0 : Nat) x.snd.fst), y.fst,
  List.take x_3.snd.fst.length (List.drop (0 : Nat) x_3.snd.fst), List.take x.snd.snd.fst.length (List.drop (0 : Nat) x.snd.snd.fst), List.take x_3.snd.snd.fst.length (List.drop (0
  : Nat) x_3.snd.snd.fst), List.take x_3.snd.snd.snd.fst.length (List.drop (0 : Nat) x_3.snd.snd.snd.fst)), (0 : Int), ())))))
theorem Lx_grid_New (ty0 ty1 ty2 ty3 ty4 ty5 : Nat) (n : Int) (h : I64 n) : Fx_grid_New ty0 ty1 ty2 ty3 ty4 ty5 n (fun r => r = newR n) := by
  have cr := cells_rng n
  obtain ⟨N, hN⟩ : ∃ N, (cellsI n).toNat = N := ⟨_, rfl⟩
  have hc : cellsI n = (N : Int) := by omega
  have hc' : (cellsR n).fst = (N : Int) := hc
  have hN1 : N ≤ 6144 := by omega
  have nk := fun k => netN_ok n k
  have i6 : ∀ {z : Int}, 0 ≤ z → z ≤ 6144 → I64 z := fun {z} a b => ⟨by omega, by omega⟩
  refine ⟨h, ?_⟩
  rw [hc']
  refine Br.intro (fun e => ?_) fun e => ?_
  · have e : (N : Int) = 0 := beq_iff_eq.1 e
    show _ = newR n
    unfold newR; rw [if_pos (by omega)]
  have e : ¬ (N : Int) = 0 := fun q => by rw [q] at e; cases e
  have hnew : newR n = (some (netG n), 0, ()) := by unfold newR; rw [if_neg (by omega)]
  refine ⟨⟨by decide, by decide⟩, rfl, fun x y => ∃ k : Nat, x.1 = k ∧ k ≤ N ∧ x.2.1 = (netN n k).1 ∧ x.2.2.1 = [] ∧ y.1 = (netN n k).2, fun x _ => N - x.1.toNat, ⟨0, rfl, by omega, rfl, rfl, rfl⟩, ?_⟩
  rintro ⟨_, _, _, ⟨⟩⟩ ⟨_, ⟨⟩⟩ ⟨k, rfl, hk, rfl, rfl, rfl⟩
  dsimp only
  refine Br.intro (fun e1 => ?_) fun e1 => ?_
  · have e1 : k < N := by have := of_decide_eq_true e1; omega
    refine ⟨⟨rfl, rfl⟩, rfl, fun x y => ∃ j : Nat, x.1 = j ∧ j ≤ 4 ∧ x.2.1 = (addN n k (netN n k) j).1 ∧ y.1 = (addN n k (netN n k) j).2, fun x _ => 4 - x.1.toNat, ⟨0, rfl, by omega, rfl, rfl⟩, ?_⟩
    rintro ⟨_, _, ⟨⟩⟩ ⟨_, ⟨⟩⟩ ⟨j, rfl, hj, rfl, rfl⟩
    dsimp only
    have hlen := (addN_ok (n := n) (c := k) (by omega) (by omega) (nk k (by omega)).1 j hj).2
    have hlk := (nk k (by omega)).2
    refine Br.intro (fun e2 => ?_) fun e2 => ?_
    · have e2 : j < 4 := by have e2 : (j : Int) < 4 := of_decide_eq_true e2; omega
      refine ⟨⟨h, i6 (by omega) (by omega), i6 (by omega) (by omega)⟩, ?_⟩
      rintro ⟨b, q, ⟨⟩⟩ hb
      have hb : (b, q, ()) = besideR n k j := hb
      have eb : b = (besideI n k j).1 := congrArg Prod.fst hb
      have eq : q = (besideI n k j).2 := congrArg (fun z => z.2.1) hb
      rw [wi_succ e2 (by omega)]
      refine Br.intro (fun g => ?_) fun g => ?_
      · have g : (k : Int) > b := of_decide_eq_true g
        have hst : addN n k (netN n k) (j + 1) = addN n k (netN n k) j := by
          show addE n k j (addN n k (netN n k) j) = _
          unfold addE; rw [if_pos (by omega)]
        exact ⟨⟨rfl, rfl⟩, rfl, ⟨j + 1, rfl, by omega, by rw [hst], by rw [hst]⟩, by omega⟩
      · have g : ¬ (k : Int) > b := of_decide_eq_false g
        have hst : addN n k (netN n k) (j + 1) = ((addN n k (netN n k) j).1 ++ [((k : Int), (j : Int), b, q)], mput (b, q) (addN n k (netN n k) j).1.length (mput ((k : Int), (j : Int)) (addN n k (netN n k) j).1.length (addN n k (netN n k) j).2)) := by
          show addE n k j (addN n k (netN n k) j) = _
          unfold addE; rw [if_neg (by omega), eb, eq]
        exact ⟨⟨rfl, by omega⟩, ⟨rfl, by rw [List.length_append]; rfl⟩, rfl, ⟨j + 1, rfl, by omega, by rw [hst], by rw [hst]⟩, by omega⟩
    · have e2 : j = 4 := by have e2 : ¬ (j : Int) < 4 := of_decide_eq_false e2; omega
      subst e2
      rw [wi_succ e1 (by omega)]
      exact ⟨⟨rfl, rfl⟩, ⟨rfl, rfl⟩, rfl, ⟨k + 1, rfl, by omega, rfl, rfl, rfl⟩, by omega⟩
  have e1 : k = N := by have := of_decide_eq_false e1; omega
  subst e1
  obtain ⟨eok, elen⟩ := nk k hN1
  have hE : netE n = netN n k := by unfold netE; rw [hN]
  generalize netN n k = E at *
  refine ⟨⟨by decide, by decide⟩, ⟨rfl, rfl⟩, ⟨rfl, rfl⟩, rfl, fun x y => ∃ m : Nat, x.1 = m ∧ m ≤ k ∧ x.2.1 = E.1 ∧ x.2.2.1 = ((List.range m).map fun q : Nat => areaI n (q : Int)) ∧ y.1 = E.2, fun x _ => k - x.1.toNat, ⟨0, rfl, by omega, rfl, rfl, rfl⟩, ?_⟩
  rintro ⟨_, _, _, ⟨⟩⟩ ⟨_, ⟨⟩⟩ ⟨m, rfl, hm, rfl, rfl, rfl⟩
  dsimp only
  have hml : ((List.range m).map fun q : Nat => areaI n (q : Int)).length = m := by rw [List.length_map, List.length_range]
  refine Br.intro (fun e1 => ?_) fun e1 => ?_
  · have e1 : m < k := by have := of_decide_eq_true e1; omega
    rw [wi_succ e1 (by omega)]
    exact ⟨⟨h, i6 (by omega) (by omega)⟩, ⟨rfl, by rw [hml]; omega⟩, ⟨rfl, rfl⟩, ⟨rfl, by rw [List.length_append]; rfl⟩, rfl, ⟨m + 1, rfl, by omega, rfl, (range_map_succ (fun q : Nat => areaI n (q : Int)) m).symm, rfl⟩, by omega⟩
  have e1 : m = k := by have := of_decide_eq_false e1; omega
  subst e1
  refine ⟨rfl, fun x _ => ∃ q : Nat, x.1 = q ∧ q ≤ E.1.length ∧ x.2.1 = (E.1.take q).map (behindE n) ∧ x.2.2.1 = (E.1.take q).map (fun e => lengthG n e.1 e.2.1) ∧ x.2.2.2.1 = (E.1.take q).map (fun e => gapG n e.1 e.2.1), fun x _ => E.1.length - x.1.toNat, ⟨0, rfl, by omega, rfl, rfl, rfl⟩, ?_⟩
  rintro ⟨_, _, _, _, ⟨⟩⟩ _ ⟨q, rfl, hq, rfl, rfl, rfl⟩
  dsimp only
  have hl : ∀ {α : Type} (f : Ed → α), ((E.1.take q).map f).length = q := fun {α} f => by rw [List.length_map, List.length_take]; omega
  refine Br.intro (fun e1 => ?_) fun e1 => ?_
  · have e1 : q < E.1.length := by have := of_decide_eq_true e1; omega
    rw [Int.toNat_natCast, Nat.zero_add, wi_succ e1 (by omega)]
    obtain ⟨d, hd⟩ : ∃ d, E.1.getD q kEdge.dflt = d := ⟨_, rfl⟩
    have dm : d ∈ E.1 := by rw [← hd]; exact getD_mem e1 _
    have ts : E.1.take (q + 1) = E.1.take q ++ [d] := by rw [take_step e1 kEdge.dflt, hd]
    rw [hd]
    obtain ⟨d1, d2, d3, d4, d5, d6, d7, d8⟩ := eok d dm
    have w1 : IntKind.i64.wrap (d.2.1 + 2) = d.2.1 + 2 := wi ⟨by omega, by omega⟩
    have w2 : IntKind.i64.wrap (d.2.2.2 + 2) = d.2.2.2 + 2 := wi ⟨by omega, by omega⟩
    rw [w1, w2]
    have t1 : I64 (Int.tmod (d.2.1 + 2) 4) := by rw [Int.tmod_eq_emod_of_nonneg (by omega)]; exact i6 (by omega) (by omega)
    have t2 : I64 (Int.tmod (d.2.2.2 + 2) 4) := by rw [Int.tmod_eq_emod_of_nonneg (by omega)]; exact i6 (by omega) (by omega)
    refine ⟨⟨by omega, by omega⟩, by decide, ⟨h, i6 d1 (by omega), t1⟩, ?_⟩
    rintro ⟨a1, a2, ⟨⟩⟩ ha
    have ea : a1 = (besideI n d.1 (Int.tmod (d.2.1 + 2) 4)).1 := congrArg Prod.fst ha
    refine ⟨by decide, ⟨h, i6 d5 (by omega), t2⟩, ?_⟩
    rintro ⟨b1, b2, ⟨⟩⟩ hb
    have eb : b1 = (besideI n d.2.2.1 (Int.tmod (d.2.2.2 + 2) 4)).1 := congrArg Prod.fst hb
    refine ⟨⟨rfl, by rw [hl]; omega⟩, ⟨h, i6 d1 (by omega), i6 d3 (by omega)⟩, ?_⟩
    rintro ⟨l1, ⟨⟩⟩ hl1
    have el : l1 = lengthG n d.1 d.2.1 := congrArg Prod.fst hl1
    refine ⟨⟨rfl, by rw [hl]; omega⟩, ⟨h, i6 d1 (by omega), i6 d3 (by omega)⟩, ?_⟩
    rintro ⟨g1, ⟨⟩⟩ hg1
    have eg : g1 = gapG n d.1 d.2.1 := congrArg Prod.fst hg1
    refine ⟨⟨rfl, by rw [hl]; omega⟩, ⟨rfl, by rw [List.length_append]; rfl⟩, ⟨rfl, by rw [List.length_append]; rfl⟩, ⟨rfl, by rw [List.length_append]; rfl⟩, rfl, ⟨q + 1, rfl, by omega, ?_, ?_, ?_⟩, by omega⟩
    · rw [ts, List.map_append]; dsimp only; rw [ea, eb]; rfl
    · rw [ts, List.map_append]; dsimp only; rw [el]; rfl
    · rw [ts, List.map_append]; dsimp only; rw [eg]; rfl
  · have e1 : q = E.1.length := by have := of_decide_eq_false e1; omega
    subst e1
    show _ = newR n
    rw [hnew]
    unfold netG areasL
    rw [hE, hN, List.take_length]
    simp only [List.drop_zero, List.take_length]
end Go.Lift

set_option linter.unusedVariables false
set_option linter.unusedSimpArgs false
namespace Go.Lift
def Fx_cube_good := fun (a : Int) (post : Bool × Unit → Prop) => ∀ (a_1 : Bool), a_1 = decide (a ≥ (1 : Int)) → Br a_1 (∀ (a_2 : Bool), a_2 = decide (a ≤ (32 : Int)) → post (a_2,
  ())) (post (Bool.false, ()))
theorem Lx_cube_good (a : Int) : Fx_cube_good  a (fun r => r = goodCR a) := by
  rintro _ rfl
  refine Br.intro (fun e => ?_) fun e => ?_
  · rintro _ rfl
    refine congrArg r1 ?_
    show _ = goodC a
    unfold goodC
    rw [show decide ((1 : Int) ≤ a) = true from e, Bool.true_and]
  · refine congrArg r1 ?_
    show _ = goodC a
    unfold goodC
    rw [show decide ((1 : Int) ≤ a) = false from e, Bool.false_and]
def Fx_cube_Cells := fun (a : Int) (post : Int × Unit → Prop) => ∃ (h : True), ∀ (a_1 : Bool), a_1 = (goodCR a).fst → Br (!a_1) (post ((0 : Int), ())) (post (IntKind.i64.wrap
  (IntKind.i64.wrap ((6 : Int) * a) * a), ()))
theorem Lx_cube_Cells (a : Int) (h : I64 a) : Fx_cube_Cells  a (fun r => r = cellsR a) := by
  refine ⟨trivial, ?_⟩
  rintro _ rfl
  refine Br.intro (fun e => ?_) fun e => ?_
  · have e : (!goodC a) = true := e
    exact congrArg r1 (cells_bad (by simpa using e)).symm
  · have e : (!goodC a) = false := e
    exact congrArg r1 (cells_wrap (by simpa using e))
def Fx_cube_Place := fun (n c : Int) (post : Int × Int × Int × Bool × Unit → Prop) => ∀ (a : Bool), a = decide (c < (0 : Int)) → Br a (post ((0 : Int), (0 : Int), (0 : Int),
  Bool.false, ())) (∃ (h : I64 n), ∀ (a : Bool), a = decide (c ≥ (cellsR n).fst) → Br a (post ((0 : Int), (0 : Int), (0 : Int), Bool.false, ())) (∃ (h : IntKind.i64.wrap (n * n) ≠
  (0 : Int)), ∃ (h : n ≠ (0 : Int)), ∃ (h : n ≠ (0 : Int)), ∃ (h : n ≠ (0 : Int)), post (IntKind.i64.wrap (c.tdiv (IntKind.i64.wrap (n * n))), c.tmod n, (IntKind.i64.wrap (c.tdiv
  n)).tmod n, Bool.true, ())))
theorem Lx_cube_Place (n : Int) (c : Int) (h : II n c) : Fx_cube_Place  n c (fun r => r = placeR4 n c) := by
  have bad : placeOk n c = false → ((0 : Int), (0 : Int), (0 : Int), false, ()) = placeR4 n c := by
    intro e; unfold placeR4; rw [if_neg (by rw [e]; decide)]
  rintro _ rfl
  refine Br.intro (fun e => ?_) fun e => ?_
  · have e := of_decide_eq_true e
    exact bad (by unfold placeOk; rw [decide_eq_false (by omega), Bool.false_and])
  · have e := of_decide_eq_false e
    refine ⟨h.1, ?_⟩
    rintro _ rfl
    refine Br.intro (fun f => ?_) fun f => ?_
    · have f : cellsI n ≤ c := of_decide_eq_true f
      exact bad (by unfold placeOk; rw [decide_eq_false (p := c < cellsI n) (by omega), Bool.and_false])
    · have f : ¬ c ≥ cellsI n := of_decide_eq_false f
      have ok : placeOk n c = true := by unfold placeOk; rw [decide_eq_true (by omega), decide_eq_true (by omega)]; rfl
      obtain ⟨h1, h2, h3, h4, h5, h6⟩ := place_facts ok
      obtain ⟨r1, r2, r3, r4, r5, r6⟩ := place_rng ok
      have w1 : IntKind.i64.wrap (n * n) = n * n := wi ⟨by omega, by omega⟩
      have d1 : c.tdiv (n * n) = c / (n * n) := Int.tdiv_eq_ediv_of_nonneg h3
      have d2 : c.tdiv n = c / n := Int.tdiv_eq_ediv_of_nonneg h3
      have d3 : 0 ≤ c / n ∧ c / n ≤ c := ⟨Int.ediv_nonneg h3 (by omega), Int.ediv_le_self _ h3⟩
      have w2 : IntKind.i64.wrap (c / n) = c / n := wi ⟨by omega, by have := h.2; unfold I64 at this; omega⟩
      have w3 : IntKind.i64.wrap (c / (n * n)) = c / (n * n) := wi ⟨by omega, by omega⟩
      refine ⟨by rw [w1]; omega, by omega, by omega, by omega, ?_⟩
      rw [w1, d1, w3, d2, w2, Int.tmod_eq_emod_of_nonneg h3, Int.tmod_eq_emod_of_nonneg d3.1]
      unfold placeR4; rw [if_pos ok]
end Go.Lift

set_option linter.unusedVariables false
set_option linter.unusedSimpArgs false
namespace Go.Lift
open Go.Proofs
def Rax_cube_good : Cx := ⟨tabOf Ratab, conOf [], RaG⟩
theorem Rax_cube_good_ok : CxOk Tryd.prog Rax_cube_good := ⟨tabB_sound Ratab_ok, fun f c h => by cases h⟩
theorem Raat_cube_good : FnAt Tryd.prog 32 Tryd.f32.ntmps Tryd.f32.results.toList (Tryd.f32.body.getD .skip) := ⟨Tryd.f32, Tryd.func32, rfl, rfl, by simp, by decide⟩
theorem Raeq_cube_good (a : Int) (post : Bool × Unit → Prop) : fnEval Rax_cube_good nHn Tryd.f32.ntmps Tryd.f32.results.toList (Tryd.f32.body.getD .skip) [.int .i64] [.snap .bool] (a, ()) post = Fx_cube_good  a post := by kernel_rfl
theorem Rah_cube_good : Raq_cube_good.holds Tryd.prog RaG 32 :=
  detP Rax_cube_good_ok Ramixed nHn Raat_cube_good (F := fun x post => Fx_cube_good  x.1 post) (fun x post => Raeq_cube_good x.1 post) fun x _ _ => Lx_cube_good  x.1
def Rax_cube_Cells : Cx := ⟨tabOf Ratab, conOf [(32, Raq_cube_good)], RaG⟩
theorem Rax_cube_Cells_ok : CxOk Tryd.prog Rax_cube_Cells := ⟨tabB_sound Ratab_ok, conOf_sound ⟨Rah_cube_good, trivial⟩⟩
theorem Raat_cube_Cells : FnAt Tryd.prog 22 Tryd.f22.ntmps Tryd.f22.results.toList (Tryd.f22.body.getD .skip) := ⟨Tryd.f22, Tryd.func22, rfl, rfl, by simp, by decide⟩
theorem Raeq_cube_Cells (a : Int) (post : Int × Unit → Prop) : fnEval Rax_cube_Cells nHn Tryd.f22.ntmps Tryd.f22.results.toList (Tryd.f22.body.getD .skip) [.int .i64] [.snap (.int .i64)] (a, ()) post = Fx_cube_Cells  a post := by kernel_rfl
theorem Rah_cube_Cells : Raq_cube_Cells.holds Tryd.prog RaG 22 :=
  detP Rax_cube_Cells_ok Ramixed nHn Raat_cube_Cells (F := fun x post => Fx_cube_Cells  x.1 post) (fun x post => Raeq_cube_Cells x.1 post) fun x h _ => Lx_cube_Cells  x.1 h
def Rax_cube_Place : Cx := ⟨tabOf Ratab, conOf [(22, Raq_cube_Cells)], RaG⟩
theorem Rax_cube_Place_ok : CxOk Tryd.prog Rax_cube_Place := ⟨tabB_sound Ratab_ok, conOf_sound ⟨Rah_cube_Cells, trivial⟩⟩
theorem Raat_cube_Place : FnAt Tryd.prog 34 Tryd.f34.ntmps Tryd.f34.results.toList (Tryd.f34.body.getD .skip) := ⟨Tryd.f34, Tryd.func34, rfl, rfl, by simp, by decide⟩
theorem Raeq_cube_Place (n : Int) (c : Int) (post : Int × Int × Int × Bool × Unit → Prop) : fnEval Rax_cube_Place nHn Tryd.f34.ntmps Tryd.f34.results.toList (Tryd.f34.body.getD .skip) [.int .i64, .int .i64] [.snap (.int .i64), .snap (.int .i64), .snap (.int .i64), .snap .bool] (n, c, ()) post = Fx_cube_Place  n c post := by kernel_rfl
theorem Rah_cube_Place : Raq_cube_Place.holds Tryd.prog RaG 34 :=
  detP Rax_cube_Place_ok Ramixed nHn Raat_cube_Place (F := fun x post => Fx_cube_Place  x.1 x.2.1 post) (fun x post => Raeq_cube_Place x.1 x.2.1 post) fun x h _ => Lx_cube_Place  x.1 x.2.1 h
end Go.Lift

set_option linter.unusedVariables false
set_option linter.unusedSimpArgs false
namespace Go.Lift
def Fx_cube_Beside := fun (ty105 ty111 ty109 : Nat) (n c o : Int) (post : Int × Int × Unit → Prop) => ∃ (h : II n c), Br (!(placeR4 n c).snd.snd.snd.fst) (post ((-1 : Int), (0 :
  Int), ())) (∀ (a : Bool), a = decide (o < (0 : Int)) → Br a (post ((-1 : Int), (0 : Int), ())) (∀ (a : Bool), a = decide (o ≥ (4 : Int)) → Br a (post ((-1 : Int), (0 : Int), ()))
  (∃ (h : (List.replicate (4 : Nat) (K.arr (2 : Nat) (K.int IntKind.i64)).dflt).length = (4 : Nat) ∧ (4 : Nat) = (4 : Nat)), ∃ (h : (0 : Int) ≤ o ∧ o < (↑(4 : Nat) : Int) ∧ (4 :
  Nat) ≤ (4 : Nat)), ∃ (h : (0 : Int) ≤ (0 : Int) ∧ (0 : Int) < (↑(2 : Nat) : Int)), ∃ (h : (0 : Int) ≤ o ∧ o < (↑(4 : Nat) : Int) ∧ (4 : Nat) ≤ (4 : Nat)), ∃ (h : (0 : Int) ≤ (1 :
  Int) ∧ (1 : Int) < (↑(2 : Nat) : Int)), ∃ (h : IIII n (placeR4 n c).fst (IntKind.i64.wrap ((placeR4 n c).snd.fst + List.getD ([[(1 : Int), (0 : Int)], [(0 : Int), (1 : Int)], [(-1
  : Int), (0 : Int)], [(0 : Int), (-1 : Int)]].getD o.toNat (K.arr (2 : Nat) (K.int IntKind.i64)).dflt) (0 : Nat) (0 : Int))) (IntKind.i64.wrap ((placeR4 n c).snd.snd.fst +
  List.getD ([[(1 : Int), (0 : Int)], [(0 : Int), (1 : Int)], [(-1 : Int), (0 : Int)], [(0 : Int), (-1 : Int)]].getD o.toNat (K.arr (2 : Nat) (K.int IntKind.i64)).dflt) ((nat_lit 0
  + (1 : Nat)) / (K.int IntKind.i64).sz) (0 : Int)))), ∀ (a : Int × Unit), a = cellR n (placeR4 n c).fst (IntKind.i64.wrap ((placeR4 n c).snd.fst + List.getD ([[(1 : Int), (0 :
  Int)], [(0 : Int), (1 : Int)], [(-1 : Int), (0 : Int)], [(0 : Int), (-1 : Int)]].getD o.toNat (K.arr (2 : Nat) (K.int IntKind.i64)).dflt) (0 : Nat) (0 : Int))) (IntKind.i64.wrap
  ((placeR4 n c).snd.snd.fst + List.getD ([[(1 : Int), (0 : Int)], [(0 : Int), (1 : Int)], [(-1 : Int), (0 : Int)], [(0 : Int), (-1 : Int)]].getD o.toNat (K.arr (2 : Nat) (K.int
  IntKind.i64)).dflt) ((nat_lit 0 + (1 : Nat)) / (K.int IntKind.i64).sz) (0 : Int))) → ∀ (a_1 : Bool), a_1 = decide (a.fst ≥ (0 : Int)) → Br a_1 (∃ (h : (4 : Int) ≠ (0 : Int)), post
  (a.fst, (IntKind.i64.wrap (o + (2 : Int))).tmod (4 : Int), ())) (∃ (h : (0 : Int) ≤ (placeR4 n c).fst ∧ (placeR4 n c).fst < (↑(6 : Nat) : Int)), ∃ (h : WOut (framesL.getD (placeR4
  n c).fst.toNat (K.arr (3 : Nat) (K.arr (3 : Nat) (K.int IntKind.i64))).dflt) o), ∀ (a : List Int × Unit), a = outR (framesL.getD (placeR4 n c).fst.toNat (K.arr (3 : Nat) (K.arr (3
  : Nat) (K.int IntKind.i64))).dflt) o → ∃ (h : True), ∀ (a_2 : Int × Unit), a_2 = faceAtR a.fst → ∃ (h : (0 : Int) ≤ a_2.fst ∧ a_2.fst < (↑(6 : Nat) : Int)), ∃ (h : (List.replicate
  (3 : Nat) (K.arr (3 : Nat) (K.int IntKind.i64)).dflt).length = (3 : Nat) ∧ List.length (framesL.getD a_2.fst.toNat (K.arr (3 : Nat) (K.arr (3 : Nat) (K.int IntKind.i64))).dflt) =
  (3 : Nat)), ∃ (h : WMiddle n (placeR4 n c).fst (placeR4 n c).snd.fst (placeR4 n c).snd.snd.fst), ∀ (a : List Int × Unit), a = middleR' n (placeR4 n c).fst (placeR4 n c).snd.fst
  (placeR4 n c).snd.snd.fst → ∃ (h : (0 : Int) ≤ (placeR4 n c).fst ∧ (placeR4 n c).fst < (↑(6 : Nat) : Int)), ∃ (h : WOut (framesL.getD (placeR4 n c).fst.toNat (K.arr (3 : Nat)
  (K.arr (3 : Nat) (K.int IntKind.i64))).dflt) o), ∀ (a_3 : List Int × Unit), a_3 = outR (framesL.getD (placeR4 n c).fst.toNat (K.arr (3 : Nat) (K.arr (3 : Nat) (K.int
  IntKind.i64))).dflt) o → ∃ (h : WPlus a.fst a_3.fst), ∀ (a_4 : List Int × Unit), a_4 = plusR a.fst a_3.fst → ∃ (h : (List.replicate (3 : Nat) (0 : Int)).length = (3 : Nat) ∧
  a_4.fst.length = (3 : Nat)), ∃ (h : a_4.fst.length = (3 : Nat)), ∃ (h : (0 : Int) ≤ (1 : Int) ∧ (1 : Int) < (↑(3 : Nat) : Int) ∧ (3 : Nat) ≤ List.length (framesL.getD
  a_2.fst.toNat (K.arr (3 : Nat) (K.arr (3 : Nat) (K.int IntKind.i64))).dflt)), ∃ (h : WDot a_4.fst (List.getD (framesL.getD a_2.fst.toNat (K.arr (3 : Nat) (K.arr (3 : Nat) (K.int
  IntKind.i64))).dflt) (Int.toNat (1 : Int)) (K.arr (3 : Nat) (K.int IntKind.i64)).dflt)), ∀ (a : Int × Unit), a = dotR a_4.fst (List.getD (framesL.getD a_2.fst.toNat (K.arr (3 :
  Nat) (K.arr (3 : Nat) (K.int IntKind.i64))).dflt) (Int.toNat (1 : Int)) (K.arr (3 : Nat) (K.int IntKind.i64)).dflt) → ∃ (h : WIndex n a.fst), ∀ (a_5 : Int × Unit), a_5 = indexR n
  a.fst → ∃ (h : a_4.fst.length = (3 : Nat)), ∃ (h : (0 : Int) ≤ (2 : Int) ∧ (2 : Int) < (↑(3 : Nat) : Int) ∧ (3 : Nat) ≤ List.length (framesL.getD a_2.fst.toNat (K.arr (3 : Nat)
  (K.arr (3 : Nat) (K.int IntKind.i64))).dflt)), ∃ (h : WDot a_4.fst (List.getD (framesL.getD a_2.fst.toNat (K.arr (3 : Nat) (K.arr (3 : Nat) (K.int IntKind.i64))).dflt) (Int.toNat
  (2 : Int)) (K.arr (3 : Nat) (K.int IntKind.i64)).dflt)), ∀ (a : Int × Unit), a = dotR a_4.fst (List.getD (framesL.getD a_2.fst.toNat (K.arr (3 : Nat) (K.arr (3 : Nat) (K.int
  IntKind.i64))).dflt) (Int.toNat (2 : Int)) (K.arr (3 : Nat) (K.int IntKind.i64)).dflt) → ∃ (h : WIndex n a.fst), ∀ (a_6 : Int × Unit), a_6 = indexR n a.fst → ∃ (h : IIII n a_2.fst
  a_5.fst a_6.fst), ∀ (a : Int × Unit), a = cellR n a_2.fst a_5.fst a_6.fst → HIs [HObj.row Md.rw ty105 (K.arr (2 : Nat) (K.int IntKind.i64)) [[(1 : Int), (0 : Int)], [(0 : Int), (1
  : Int)], [(-1 : Int), (0 : Int)], [(0 : Int), (-1 : Int)]], HObj.row Md.rw ty111 (K.arr (3 : Nat) (K.int IntKind.i64)) (framesL.getD a_2.fst.toNat (K.arr (3 : Nat) (K.arr (3 :
  Nat) (K.int IntKind.i64))).dflt), HObj.row Md.rw ty109 (K.int IntKind.i64) a_4.fst] [HObj.row Md.rw ty105 (K.arr (2 : Nat) (K.int IntKind.i64)) [[(1 : Int), (0 : Int)], [(0 :
  Int), (1 : Int)], [(-1 : Int), (0 : Int)], [(0 : Int), (-1 : Int)]], HObj.row Md.rw ty111 (K.arr (3 : Nat) (K.int IntKind.i64)) (framesL.getD a_2.fst.toNat (K.arr (3 : Nat) (K.arr
  (3 : Nat) (K.int IntKind.i64))).dflt), HObj.row Md.rw ty109 (K.int IntKind.i64) a_4.fst] ∧ ∃ (I : Int × Unit → Unit → Prop), ∃ (μ : Int × Unit → Unit → Nat), I ((0 : Int), ()) ()
  ∧ ∀ (x : Int × Unit) (y : Unit), I x y → ∀ (a_7 : Bool), a_7 = decide (x.fst < (4 : Int)) → Br a_7 (∃ (h : List.length (framesL.getD a_2.fst.toNat (K.arr (3 : Nat) (K.arr (3 :
  Nat) (K.int IntKind.i64))).dflt) = (3 : Nat)), ∃ (h : WOut (framesL.getD a_2.fst.toNat (K.arr (3 : Nat) (K.arr (3 : Nat) (K.int IntKind.i64))).dflt) x.fst), ∀ (a_8 : List Int ×
  Unit), a_8 = outR (framesL.getD a_2.fst.toNat (K.arr (3 : Nat) (K.arr (3 : Nat) (K.int IntKind.i64))).dflt) x.fst → ∃ (h : (0 : Int) ≤ (placeR4 n c).fst ∧ (placeR4 n c).fst < (↑(6
  : Nat) : Int)), ∃ (h : (0 : Int) ≤ (0 : Int) ∧ (0 : Int) < (↑(3 : Nat) : Int)), ∀ (a_9 : Bool), a_9 = eqL a_8.fst (List.getD (framesL.getD (placeR4 n c).fst.toNat (K.arr (3 : Nat)
  (K.arr (3 : Nat) (K.int IntKind.i64))).dflt) (Int.toNat (0 : Int)) (K.arr (3 : Nat) (K.int IntKind.i64)).dflt) → Br a_9 (post (a.fst, x.fst, ())) (HIs [HObj.row Md.rw ty105 (K.arr
  (2 : Nat) (K.int IntKind.i64)) [[(1 : Int), (0 : Int)], [(0 : Int), (1 : Int)], [(-1 : Int), (0 : Int)], [(0 : Int), (-1 : Int)]], HObj.row Md.rw ty111 (K.arr (3 : Nat) (K.int
  IntKind.i64)) (framesL.getD a_2.fst.toNat (K.arr (3 : Nat) (K.arr (3 : Nat) (K.int IntKind.i64))).dflt), HObj.row Md.rw ty109 (K.int IntKind.i64) a_4.fst] [HObj.row Md.rw ty105
  (K.arr (2 : Nat) (K.int IntKind.i64)) [[(1 : Int), (0 : Int)], [(0 : Int), (1 : Int)], [(-1 : Int), (0 : Int)], [(0 : Int), (-1 : Int)]], HObj.row Md.rw ty111 (K.arr (3 : Nat)
  (K.int IntKind.i64)) (framesL.getD a_2.fst.toNat (K.arr (3 : Nat) (K.arr (3 : Nat) (K.int IntKind.i64))).dflt), HObj.row Md.rw ty109 (K.int IntKind.i64) a_4.fst] ∧ I
  (IntKind.i64.wrap (x.fst + (1 : Int)), ()) () ∧ μ (IntKind.i64.wrap (x.fst + (1 : Int)), ()) () < μ x y)) (post ((-1 : Int), (0 : Int), ()))))))
theorem Lx_cube_Beside (ty0 ty1 ty2 : Nat) (n : Int) (c : Int) (o : Int) (h : III n c o) : Fx_cube_Beside ty0 ty1 ty2 n c o (fun r => r = besideR n c o) := by
  refine ⟨⟨h.1, h.2.1⟩, ?_⟩
  have no : besideOk n c o = false → ((-1 : Int), (0 : Int), ()) = besideR n c o := by
    intro q
    have : besideI n c o = (-1, 0) := by unfold besideI; rw [if_neg (by rw [q]; decide)]
    unfold besideR; rw [this]
  by_cases ok : placeOk n c = true
  · rw [place_eq ok]
    have hm := place_mid ok
    have hh := hm
    obtain ⟨n1, n2, f0, f5, i0, i1, j0, j1⟩ := hh
    dsimp only
    refine Br.intro (fun e => absurd e (by decide)) fun _ => ?_
    rintro _ rfl
    refine Br.intro (fun e => no ?_) fun e => ?_
    · have e := of_decide_eq_true e
      unfold besideOk; rw [decide_eq_false (p := 0 ≤ o) (by omega)]; simp
    have o0 := of_decide_eq_false e
    rintro _ rfl
    refine Br.intro (fun e => no ?_) fun e => ?_
    · have e := of_decide_eq_true e
      unfold besideOk; rw [decide_eq_false (p := o < 4) (by omega)]; simp
    have o4 := of_decide_eq_false e
    have o0 : 0 ≤ o := by omega
    have o4 : o < 4 := by omega
    have okb : besideOk n c o = true := by unfold besideOk; rw [ok, decide_eq_true o0, decide_eq_true o4]; rfl
    have d := dxy (o := o)
    obtain ⟨F, hF⟩ : ∃ F, c / (n * n) = F := ⟨_, rfl⟩
    obtain ⟨i, hi0⟩ : ∃ i, c % n = i := ⟨_, rfl⟩
    obtain ⟨j, hj0⟩ : ∃ j, c / n % n = j := ⟨_, rfl⟩
    have hb : besideI n c o = if 0 ≤ cellI n F (i + dxI o) (j + dyI o) then (cellI n F (i + dxI o) (j + dyI o), Int.tmod (o + 2) 4) else overI n F i j o := by
      unfold besideI; rw [if_pos okb, hF, hi0, hj0]
    rw [hF, hi0, hj0]
    rw [hF] at hm f0 f5
    rw [hi0] at hm i0 i1
    rw [hj0] at hm j0 j1
    have w1 : IntKind.i64.wrap (i + dxI o) = i + dxI o := wi ⟨by omega, by omega⟩
    have w2 : IntKind.i64.wrap (j + dyI o) = j + dyI o := wi ⟨by omega, by omega⟩
    have i6 : ∀ {z : Int}, -1 ≤ z → z ≤ 6144 → I64 z := fun {z} a b => ⟨by omega, by omega⟩
    have fb := frame_bd f0 f5
    have wo : ∀ q, WOut (frameL F) q := fun q => ⟨(fb 1).mono (by decide), (fb 2).mono (by decide)⟩
    refine ⟨⟨rfl, rfl⟩, ⟨o0, o4, Nat.le_refl _⟩, ⟨by decide, by decide⟩, ⟨o0, o4, Nat.le_refl _⟩, ⟨by decide, by decide⟩, ⟨h.1, i6 (by omega) (by omega), i64_wrap _, i64_wrap _⟩, ?_⟩
    intro a ha
    have ha : a = cellR n F (IntKind.i64.wrap (i + dxI o)) (IntKind.i64.wrap (j + dyI o)) := ha.trans (by rw [← dx_get o0 o4, ← dy_get o0 o4]; rfl)
    rw [w1, w2] at ha
    obtain ⟨a, ⟨⟩⟩ := a
    have ha : a = cellI n F (i + dxI o) (j + dyI o) := congrArg Prod.fst ha
    rw [← ha] at hb
    rintro _ rfl
    refine Br.intro (fun e => ?_) fun e => ?_
    · have e : a ≥ 0 := of_decide_eq_true e
      rw [if_pos e] at hb
      refine ⟨by decide, ?_⟩
      have : IntKind.i64.wrap (o + 2) = o + 2 := wi ⟨by omega, by omega⟩
      rw [this]
      unfold besideR; rw [hb]
    have e : ¬ 0 ≤ a := of_decide_eq_false e
    rw [if_neg e] at hb
    refine ⟨⟨f0, by show F < 6; omega⟩, wo o, ?_⟩
    rintro ⟨v1, ⟨⟩⟩ hv1
    have e1 : v1 = outF (frameL F) o := congrArg Prod.fst hv1
    refine ⟨trivial, ?_⟩
    rintro ⟨t, ⟨⟩⟩ ht
    have et : t = faceAtI (outF (frameL F) o) := by rw [← e1]; exact congrArg Prod.fst ht
    obtain ⟨t0, t5⟩ := face_at f0 f5 o0 o4
    rw [← et] at t0 t5
    have fl := frame_len t0 t5
    have tb := frame_bd t0 t5
    refine ⟨⟨t0, by show t < 6; omega⟩, ⟨rfl, fl⟩, hm, ?_⟩
    rintro ⟨p, ⟨⟩⟩ hp
    have ep : p = middleI n F i j := congrArg Prod.fst hp
    have pb : Bd 96 p := by rw [ep]; exact middle_bd hm
    refine ⟨⟨f0, by show F < 6; omega⟩, wo o, ?_⟩
    rintro ⟨v2, ⟨⟩⟩ hv2
    have e2 : v2 = outF (frameL F) o := congrArg Prod.fst hv2
    have vb : Bd 1 v2 := by rw [e2]; exact out_bd f0 f5 o
    refine ⟨⟨pb.mono (by decide), vb.mono (by decide)⟩, ?_⟩
    rintro ⟨q, ⟨⟩⟩ hq
    have eq : q = plusW p v2 := congrArg Prod.fst hq
    have ql : q.length = 3 := by rw [eq]; rfl
    have qb : Bd 97 q := by rw [eq]; exact plus_bd pb vb
    refine ⟨⟨rfl, ql⟩, ql, ⟨by decide, by decide, Nat.le_of_eq fl.symm⟩, ⟨qb.mono (by decide), (tb 1).mono (by decide)⟩, ?_⟩
    rintro ⟨d1, ⟨⟩⟩ hd1
    have ed1 : d1 = dotW q (wayAt (frameL t) 1) := congrArg Prod.fst hd1
    have db1 := dot_bd qb (tb 1)
    rw [← ed1] at db1
    refine ⟨⟨n1, n2, by omega, by omega⟩, ?_⟩
    rintro ⟨x1, ⟨⟩⟩ hx1
    have ex1 : x1 = indexI n d1 := congrArg Prod.fst hx1
    have xb1 := index_rng (a := d1) n1
    rw [← ex1] at xb1
    refine ⟨ql, ⟨by decide, by decide, Nat.le_of_eq fl.symm⟩, ⟨qb.mono (by decide), (tb 2).mono (by decide)⟩, ?_⟩
    rintro ⟨d2, ⟨⟩⟩ hd2
    have ed2 : d2 = dotW q (wayAt (frameL t) 2) := congrArg Prod.fst hd2
    have db2 := dot_bd qb (tb 2)
    rw [← ed2] at db2
    refine ⟨⟨n1, n2, by omega, by omega⟩, ?_⟩
    rintro ⟨x2, ⟨⟩⟩ hx2
    have ex2 : x2 = indexI n d2 := congrArg Prod.fst hx2
    have xb2 := index_rng (a := d2) n1
    rw [← ex2] at xb2
    refine ⟨⟨h.1, i6 (by omega) (by omega), i6 (by omega) (by omega), i6 (by omega) (by omega)⟩, ?_⟩
    rintro ⟨cc, ⟨⟩⟩ hcc
    have ecc : cc = cellI n t x1 x2 := congrArg Prod.fst hcc
    have hov : besideI n c o = backN (frameL t) (wayAt (frameL F) 0) cc 4 0 := by
      rw [hb, ecc, ex1, ex2, ed1, ed2, eq, ep, e2, et]; rfl
    refine ⟨rfl, fun x _ => ∃ k : Nat, x.1 = k ∧ k ≤ 4 ∧ besideI n c o = backN (frameL t) (wayAt (frameL F) 0) cc (4 - k) k, fun x _ => 4 - x.1.toNat, ⟨0, rfl, by omega, hov⟩, ?_⟩
    rintro ⟨_, ⟨⟩⟩ _ ⟨k, rfl, hk, hi⟩
    dsimp only
    rintro _ rfl
    refine Br.intro (fun g => ?_) fun g => ?_
    · have g : k < 4 := by have g : (k : Int) < 4 := of_decide_eq_true g; omega
      refine ⟨fl, ⟨(tb 1).mono (by decide), (tb 2).mono (by decide)⟩, ?_⟩
      rintro ⟨v3, ⟨⟩⟩ hv3
      have e3 : v3 = outF (frameL t) k := congrArg Prod.fst hv3
      refine ⟨⟨f0, by show F < 6; omega⟩, ⟨by decide, by decide⟩, ?_⟩
      intro z hz
      have hz : z = decide (outF (frameL t) k = wayAt (frameL F) 0) := by rw [← e3]; exact hz
      obtain ⟨r, hr⟩ : ∃ r, 4 - k = r + 1 := ⟨3 - k, by omega⟩
      rw [hr] at hi
      unfold backN at hi
      rw [hz, wi_succ g (by omega)]
      refine Br.intro (fun y => ?_) fun y => ?_
      · rw [if_pos (of_decide_eq_true y)] at hi
        unfold besideR; rw [hi]
      · rw [if_neg (of_decide_eq_false y)] at hi
        exact ⟨rfl, ⟨k + 1, rfl, by omega, by rw [show 4 - (k + 1) = r by omega]; exact hi⟩, by omega⟩
    · have g : k = 4 := by have g : ¬ (k : Int) < 4 := of_decide_eq_false g; omega
      subst g
      have hi : besideI n c o = (-1, 0) := hi
      unfold besideR; rw [hi]
  · rw [place_no ok]
    refine Br.intro (fun _ => no ?_) fun e => absurd e (by decide)
    unfold besideOk; rw [show placeOk n c = false by simpa using ok]; rfl
end Go.Lift

set_option linter.unusedVariables false
set_option linter.unusedSimpArgs false
namespace Go.Lift
def Fx_cube_way_times := fun (a : List Int) (k : Int) (post : List Int × Unit → Prop) => ∃ (h : (0 : Int) ≤ (0 : Int) ∧ (0 : Int) < (↑(3 : Nat) : Int) ∧ (3 : Nat) ≤ a.length), ∃ (h
  : (0 : Int) ≤ (1 : Int) ∧ (1 : Int) < (↑(3 : Nat) : Int) ∧ (3 : Nat) ≤ a.length), ∃ (h : (0 : Int) ≤ (2 : Int) ∧ (2 : Int) < (↑(3 : Nat) : Int) ∧ (3 : Nat) ≤ a.length), ∃ (h :
  (List.replicate (3 : Nat) (0 : Int)).length = (3 : Nat) ∧ (3 : Nat) = (3 : Nat)), ∃ (h : (3 : Nat) = (3 : Nat)), post ([IntKind.i64.wrap (k * a.getD (Int.toNat (0 : Int)) (0 :
  Int)), IntKind.i64.wrap (k * a.getD (Int.toNat (1 : Int)) (0 : Int)), IntKind.i64.wrap (k * a.getD (Int.toNat (2 : Int)) (0 : Int))], ())
theorem Lx_cube_way_times (a : List Int) (k : Int) (h : WTimes a k) (w : KS.wf [kWay, .int .i64] (a, k, ())) : Fx_cube_way_times  a k (fun r => r = timesR a k) := by
  have hl : a.length = 3 := w.1.1
  obtain ⟨hb, k1, k2⟩ := h
  have W : ∀ i : Nat, IntKind.i64.wrap (k * a.getD i 0) = k * a.getD i 0 := fun i => by
    have := mul_bd k1 k2 (hb i).1 (hb i).2
    exact wi ⟨by omega, by omega⟩
  refine ⟨⟨by decide, by decide, by omega⟩, ⟨by decide, by decide, by omega⟩, ⟨by decide, by decide, by omega⟩, ⟨rfl, rfl⟩, rfl, ?_⟩
  show ([IntKind.i64.wrap (k * a.getD 0 0), IntKind.i64.wrap (k * a.getD 1 0), IntKind.i64.wrap (k * a.getD 2 0)], ()) = timesR a k
  rw [W, W, W]; rfl
def Fx_cube_way_plus := fun (a b : List Int) (post : List Int × Unit → Prop) => ∃ (h : (0 : Int) ≤ (0 : Int) ∧ (0 : Int) < (↑(3 : Nat) : Int) ∧ (3 : Nat) ≤ a.length), ∃ (h : (0 :
  Int) ≤ (0 : Int) ∧ (0 : Int) < (↑(3 : Nat) : Int) ∧ (3 : Nat) ≤ b.length), ∃ (h : (0 : Int) ≤ (1 : Int) ∧ (1 : Int) < (↑(3 : Nat) : Int) ∧ (3 : Nat) ≤ a.length), ∃ (h : (0 : Int)
  ≤ (1 : Int) ∧ (1 : Int) < (↑(3 : Nat) : Int) ∧ (3 : Nat) ≤ b.length), ∃ (h : (0 : Int) ≤ (2 : Int) ∧ (2 : Int) < (↑(3 : Nat) : Int) ∧ (3 : Nat) ≤ a.length), ∃ (h : (0 : Int) ≤ (2
  : Int) ∧ (2 : Int) < (↑(3 : Nat) : Int) ∧ (3 : Nat) ≤ b.length), ∃ (h : (List.replicate (3 : Nat) (0 : Int)).length = (3 : Nat) ∧ (3 : Nat) = (3 : Nat)), ∃ (h : (3 : Nat) = (3 :
  Nat)), post ([IntKind.i64.wrap (a.getD (Int.toNat (0 : Int)) (0 : Int) + b.getD (Int.toNat (0 : Int)) (0 : Int)), IntKind.i64.wrap (a.getD (Int.toNat (1 : Int)) (0 : Int) + b.getD
  (Int.toNat (1 : Int)) (0 : Int)), IntKind.i64.wrap (a.getD (Int.toNat (2 : Int)) (0 : Int) + b.getD (Int.toNat (2 : Int)) (0 : Int))], ())
theorem Lx_cube_way_plus (a : List Int) (b : List Int) (h : WPlus a b) (w : KS.wf [kWay, kWay] (a, b, ())) : Fx_cube_way_plus  a b (fun r => r = plusR a b) := by
  have hl : a.length = 3 := w.1.1
  have hm : b.length = 3 := w.2.1.1
  obtain ⟨ha, hb⟩ := h
  have W : ∀ i : Nat, IntKind.i64.wrap (a.getD i 0 + b.getD i 0) = a.getD i 0 + b.getD i 0 := fun i => by
    have := ha i; have := hb i
    exact wi ⟨by omega, by omega⟩
  refine ⟨⟨by decide, by decide, by omega⟩, ⟨by decide, by decide, by omega⟩, ⟨by decide, by decide, by omega⟩, ⟨by decide, by decide, by omega⟩, ⟨by decide, by decide, by omega⟩, ⟨by decide, by decide, by omega⟩, ⟨rfl, rfl⟩, rfl, ?_⟩
  show ([IntKind.i64.wrap (a.getD 0 0 + b.getD 0 0), IntKind.i64.wrap (a.getD 1 0 + b.getD 1 0), IntKind.i64.wrap (a.getD 2 0 + b.getD 2 0)], ()) = plusR a b
  rw [W, W, W]; rfl
def Fx_cube_way_dot := fun (a b : List Int) (post : Int × Unit → Prop) => ∃ (h : (0 : Int) ≤ (0 : Int) ∧ (0 : Int) < (↑(3 : Nat) : Int) ∧ (3 : Nat) ≤ a.length), ∃ (h : (0 : Int) ≤
  (0 : Int) ∧ (0 : Int) < (↑(3 : Nat) : Int) ∧ (3 : Nat) ≤ b.length), ∃ (h : (0 : Int) ≤ (1 : Int) ∧ (1 : Int) < (↑(3 : Nat) : Int) ∧ (3 : Nat) ≤ a.length), ∃ (h : (0 : Int) ≤ (1 :
  Int) ∧ (1 : Int) < (↑(3 : Nat) : Int) ∧ (3 : Nat) ≤ b.length), ∃ (h : (0 : Int) ≤ (2 : Int) ∧ (2 : Int) < (↑(3 : Nat) : Int) ∧ (3 : Nat) ≤ a.length), ∃ (h : (0 : Int) ≤ (2 : Int)
  ∧ (2 : Int) < (↑(3 : Nat) : Int) ∧ (3 : Nat) ≤ b.length), post (IntKind.i64.wrap (IntKind.i64.wrap (IntKind.i64.wrap (a.getD (Int.toNat (0 : Int)) (0 : Int) * b.getD (Int.toNat (0
  : Int)) (0 : Int)) + IntKind.i64.wrap (a.getD (Int.toNat (1 : Int)) (0 : Int) * b.getD (Int.toNat (1 : Int)) (0 : Int))) + IntKind.i64.wrap (a.getD (Int.toNat (2 : Int)) (0 : Int)
  * b.getD (Int.toNat (2 : Int)) (0 : Int))), ())
theorem Lx_cube_way_dot (a : List Int) (b : List Int) (h : WDot a b) (w : KS.wf [kWay, kWay] (a, b, ())) : Fx_cube_way_dot  a b (fun r => r = dotR a b) := by
  have hl : a.length = 3 := w.1.1
  have hm : b.length = 3 := w.2.1.1
  obtain ⟨ha, hb⟩ := h
  have M : ∀ i : Nat, -(1048576 * 1048576) ≤ a.getD i 0 * b.getD i 0 ∧ a.getD i 0 * b.getD i 0 ≤ 1048576 * 1048576 := fun i => mul_bd (ha i).1 (ha i).2 (hb i).1 (hb i).2
  have m0 := M 0
  have m1 := M 1
  have m2 := M 2
  refine ⟨⟨by decide, by decide, by omega⟩, ⟨by decide, by decide, by omega⟩, ⟨by decide, by decide, by omega⟩, ⟨by decide, by decide, by omega⟩, ⟨by decide, by decide, by omega⟩, ⟨by decide, by decide, by omega⟩, ?_⟩
  show (IntKind.i64.wrap (IntKind.i64.wrap (IntKind.i64.wrap (a.getD 0 0 * b.getD 0 0) + IntKind.i64.wrap (a.getD 1 0 * b.getD 1 0)) + IntKind.i64.wrap (a.getD 2 0 * b.getD 2 0)), ()) = dotR a b
  rw [wi (x := a.getD 0 0 * b.getD 0 0) ⟨by omega, by omega⟩, wi (x := a.getD 1 0 * b.getD 1 0) ⟨by omega, by omega⟩, wi (x := a.getD 2 0 * b.getD 2 0) ⟨by omega, by omega⟩, wi (x := a.getD 0 0 * b.getD 0 0 + a.getD 1 0 * b.getD 1 0) ⟨by omega, by omega⟩, wi ⟨by omega, by omega⟩]
  rfl
def Fx_cube_frame_out := fun (f : List (List Int)) (s : Int) (post : List Int × Unit → Prop) => ∀ (a : Bool), a = (s == (0 : Int)) → Br a (∃ (h : (0 : Int) ≤ (1 : Int) ∧ (1 : Int) <
  (↑(3 : Nat) : Int) ∧ (3 : Nat) ≤ f.length), ∃ (h : (List.replicate (3 : Nat) (0 : Int)).length = (3 : Nat) ∧ List.length (f.getD (Int.toNat (1 : Int)) (K.arr (3 : Nat) (K.int
  IntKind.i64)).dflt) = (3 : Nat)), ∃ (h : List.length (f.getD (Int.toNat (1 : Int)) (K.arr (3 : Nat) (K.int IntKind.i64)).dflt) = (3 : Nat)), post (f.getD (Int.toNat (1 : Int))
  (K.arr (3 : Nat) (K.int IntKind.i64)).dflt, ())) (∀ (a : Bool), a = (s == (1 : Int)) → Br a (∃ (h : (0 : Int) ≤ (2 : Int) ∧ (2 : Int) < (↑(3 : Nat) : Int) ∧ (3 : Nat) ≤ f.length),
  ∃ (h : (List.replicate (3 : Nat) (0 : Int)).length = (3 : Nat) ∧ List.length (f.getD (Int.toNat (2 : Int)) (K.arr (3 : Nat) (K.int IntKind.i64)).dflt) = (3 : Nat)), ∃ (h :
  List.length (f.getD (Int.toNat (2 : Int)) (K.arr (3 : Nat) (K.int IntKind.i64)).dflt) = (3 : Nat)), post (f.getD (Int.toNat (2 : Int)) (K.arr (3 : Nat) (K.int IntKind.i64)).dflt,
  ())) (∀ (a : Bool), a = (s == (2 : Int)) → Br a (∃ (h : (0 : Int) ≤ (1 : Int) ∧ (1 : Int) < (↑(3 : Nat) : Int) ∧ (3 : Nat) ≤ f.length), ∃ (h : WTimes (f.getD (Int.toNat (1 : Int))
  (K.arr (3 : Nat) (K.int IntKind.i64)).dflt) (-1 : Int)), ∀ (a : List Int × Unit), a = timesR (f.getD (Int.toNat (1 : Int)) (K.arr (3 : Nat) (K.int IntKind.i64)).dflt) (-1 : Int) →
  ∃ (h : (List.replicate (3 : Nat) (0 : Int)).length = (3 : Nat) ∧ a.fst.length = (3 : Nat)), ∃ (h : a.fst.length = (3 : Nat)), post (a.fst, ())) (∃ (h : (0 : Int) ≤ (2 : Int) ∧ (2
  : Int) < (↑(3 : Nat) : Int) ∧ (3 : Nat) ≤ f.length), ∃ (h : WTimes (f.getD (Int.toNat (2 : Int)) (K.arr (3 : Nat) (K.int IntKind.i64)).dflt) (-1 : Int)), ∀ (a : List Int × Unit),
  a = timesR (f.getD (Int.toNat (2 : Int)) (K.arr (3 : Nat) (K.int IntKind.i64)).dflt) (-1 : Int) → ∃ (h : (List.replicate (3 : Nat) (0 : Int)).length = (3 : Nat) ∧ a.fst.length =
  (3 : Nat)), ∃ (h : a.fst.length = (3 : Nat)), post (a.fst, ()))))
theorem Lx_cube_frame_out (f : List (List Int)) (s : Int) (h : WOut f s) (w : KS.wf [kFrame, .int .i64] (f, s, ())) : Fx_cube_frame_out  f s (fun r => r = outR f s) := by
  have hl : f.length = 3 := w.1.1
  have hm : ∀ i, (wayAt f i).length = 3 := fun i => by
    unfold wayAt
    rcases Nat.lt_or_ge i f.length with g | g
    · exact (w.1.2 _ (getD_mem g [0, 0, 0])).1
    · rw [List.getD_eq_getElem?_getD, List.getElem?_eq_none g]; rfl
  obtain ⟨h1, h2⟩ := h
  have t1 : WTimes (wayAt f 1) (-1) := ⟨h1, by decide, by decide⟩
  have t2 : WTimes (wayAt f 2) (-1) := ⟨h2, by decide, by decide⟩
  rintro _ rfl
  refine Br.intro (fun e => ?_) fun e => ?_
  · have e : s = 0 := beq_iff_eq.1 e
    exact ⟨⟨by decide, by decide, by omega⟩, ⟨rfl, hm 1⟩, hm 1, congrArg r1 (by unfold outF; rw [if_pos e]; rfl)⟩
  have e : ¬ s = 0 := fun q => by rw [q] at e; cases e
  rintro _ rfl
  refine Br.intro (fun g => ?_) fun g => ?_
  · have g : s = 1 := beq_iff_eq.1 g
    exact ⟨⟨by decide, by decide, by omega⟩, ⟨rfl, hm 2⟩, hm 2, congrArg r1 (by unfold outF; rw [if_neg e, if_pos g]; rfl)⟩
  have g : ¬ s = 1 := fun q => by rw [q] at g; cases g
  rintro _ rfl
  refine Br.intro (fun j => ?_) fun j => ?_
  · have j : s = 2 := beq_iff_eq.1 j
    refine ⟨⟨by decide, by decide, by omega⟩, t1, ?_⟩
    rintro _ rfl
    exact ⟨⟨rfl, rfl⟩, rfl, congrArg r1 (by unfold outF; rw [if_neg e, if_neg g, if_pos j]; rfl)⟩
  have j : ¬ s = 2 := fun q => by rw [q] at j; cases j
  refine ⟨⟨by decide, by decide, by omega⟩, t2, ?_⟩
  rintro _ rfl
  exact ⟨⟨rfl, rfl⟩, rfl, congrArg r1 (by unfold outF; rw [if_neg e, if_neg g, if_neg j]; rfl)⟩
def Fx_cube_faceAt := fun (ty154 : Nat) (c : List Int) (post : Int × Unit → Prop) => HIs [HObj.row Md.rw ty154 (K.int IntKind.i64) c] [HObj.row Md.rw ty154 (K.int IntKind.i64) c] ∧
  ∃ (I : Int × Unit → Unit → Prop), ∃ (μ : Int × Unit → Unit → Nat), I ((0 : Int), ()) () ∧ ∀ (x : Int × Unit) (y : Unit), I x y → ∀ (a : Bool), a = decide (x.fst < (6 : Int)) → Br
  a (∃ (h : (0 : Int) ≤ x.fst ∧ x.fst < (↑(6 : Nat) : Int)), ∃ (h : (0 : Int) ≤ (0 : Int) ∧ (0 : Int) < (↑(3 : Nat) : Int)), ∃ (h : c.length = (3 : Nat)), ∀ (a : Bool), a = eqL
  (List.getD (framesL.getD x.fst.toNat (K.arr (3 : Nat) (K.arr (3 : Nat) (K.int IntKind.i64))).dflt) (Int.toNat (0 : Int)) (K.arr (3 : Nat) (K.int IntKind.i64)).dflt) c → Br a (post
  (x.fst, ())) (HIs [HObj.row Md.rw ty154 (K.int IntKind.i64) c] [HObj.row Md.rw ty154 (K.int IntKind.i64) c] ∧ I (IntKind.i64.wrap (x.fst + (1 : Int)), ()) () ∧ μ (IntKind.i64.wrap
  (x.fst + (1 : Int)), ()) () < μ x y)) (post ((-1 : Int), ()))
theorem Lx_cube_faceAt (ty0 : Nat) (c : List Int) (w : KS.wf [kWay] (c, ())) : Fx_cube_faceAt ty0 c (fun r => r = faceAtR c) := by
  have hl : c.length = 3 := w.1.1
  refine ⟨rfl, fun x _ => ∃ k : Nat, x.1 = k ∧ k ≤ 6 ∧ faceAtI c = firstI (fun fr => decide (wayAt fr 0 = c)) k (framesL.drop k), fun x _ => 6 - x.1.toNat, ⟨0, rfl, by omega, rfl⟩, ?_⟩
  rintro ⟨_, ⟨⟩⟩ _ ⟨k, rfl, hk, hi⟩
  dsimp only
  rintro _ rfl
  refine Br.intro (fun e => ?_) fun e => ?_
  · have e : k < 6 := by have e : (k : Int) < 6 := of_decide_eq_true e; omega
    refine ⟨⟨by omega, by show (k : Int) < 6; omega⟩, ⟨by decide, by decide⟩, hl, ?_⟩
    rw [drop_step (l := framesL) (i := k) e [[0, 0, 0], [0, 0, 0], [0, 0, 0]], firstI_cons] at hi
    rw [Int.toNat_natCast, wi_succ e (by omega)]
    intro z hz
    have hz : z = decide (wayAt (framesL.getD k [[0, 0, 0], [0, 0, 0], [0, 0, 0]]) 0 = c) := hz
    rw [hz]
    refine Br.intro (fun g => ?_) fun g => ?_
    · rw [if_pos g] at hi
      exact congrArg r1 hi.symm
    · rw [if_neg (by rw [g]; decide)] at hi
      exact ⟨rfl, ⟨k + 1, rfl, by omega, hi⟩, by omega⟩
  · have e : k = 6 := by have e : ¬ (k : Int) < 6 := of_decide_eq_false e; omega
    subst e
    exact congrArg r1 (by rw [hi]; rfl)
def Fx_cube_Cell := fun (n f i j : Int) (post : Int × Unit → Prop) => ∃ (h : True), ∀ (a : Bool), a = (goodCR n).fst → Br (!a) (post ((-1 : Int), ())) (∀ (a : Bool), a = decide (f <
  (0 : Int)) → Br a (post ((-1 : Int), ())) (∀ (a : Bool), a = decide (f ≥ (6 : Int)) → Br a (post ((-1 : Int), ())) (∀ (a : Bool), a = decide (i < (0 : Int)) → Br a (post ((-1 :
  Int), ())) (∀ (a : Bool), a = decide (i ≥ n) → Br a (post ((-1 : Int), ())) (∀ (a : Bool), a = decide (j < (0 : Int)) → Br a (post ((-1 : Int), ())) (∀ (a : Bool), a = decide (j ≥
  n) → Br a (post ((-1 : Int), ())) (post (IntKind.i64.wrap (IntKind.i64.wrap (IntKind.i64.wrap (IntKind.i64.wrap (f * n) + j) * n) + i), ()))))))))
theorem Lx_cube_Cell (n : Int) (f : Int) (i : Int) (j : Int) (h : IIII n f i j) : Fx_cube_Cell  n f i j (fun r => r = cellR n f i j) := by
  obtain ⟨hn, hf, hi, hj⟩ := h
  have no : cellOk n f i j = false → ((-1 : Int), ()) = cellR n f i j := fun q => congrArg r1 (by unfold cellI; rw [if_neg (by rw [q]; decide)])
  have ok : ∀ p, (goodC n && decide (0 ≤ f) && decide (f < 6) && decide (0 ≤ i) && decide (i < n) && decide (0 ≤ j) && decide (j < n)) = p → cellOk n f i j = p := fun p q => q
  refine ⟨trivial, ?_⟩
  intro g hg
  have hg : g = goodC n := hg
  rw [hg]
  refine Br.intro (fun e => no (ok _ ?_)) fun e => ?_
  · have e : goodC n = false := by simpa using e
    rw [e]; rfl
  have e : goodC n = true := by simpa using e
  rintro _ rfl
  refine Br.intro (fun q => no (ok _ ?_)) fun q => ?_
  · rw [decide_eq_false (p := 0 ≤ f) (by have := of_decide_eq_true q; omega)]; simp
  have q1 := of_decide_eq_false q
  rintro _ rfl
  refine Br.intro (fun q => no (ok _ ?_)) fun q => ?_
  · rw [decide_eq_false (p := f < 6) (by have := of_decide_eq_true q; omega)]; simp
  have q2 := of_decide_eq_false q
  rintro _ rfl
  refine Br.intro (fun q => no (ok _ ?_)) fun q => ?_
  · rw [decide_eq_false (p := 0 ≤ i) (by have := of_decide_eq_true q; omega)]; simp
  have q3 := of_decide_eq_false q
  rintro _ rfl
  refine Br.intro (fun q => no (ok _ ?_)) fun q => ?_
  · rw [decide_eq_false (p := i < n) (by have := of_decide_eq_true q; omega)]; simp
  have q4 := of_decide_eq_false q
  rintro _ rfl
  refine Br.intro (fun q => no (ok _ ?_)) fun q => ?_
  · rw [decide_eq_false (p := 0 ≤ j) (by have := of_decide_eq_true q; omega)]; simp
  have q5 := of_decide_eq_false q
  rintro _ rfl
  refine Br.intro (fun q => no (ok _ ?_)) fun q => ?_
  · rw [decide_eq_false (p := j < n) (by have := of_decide_eq_true q; omega)]; simp
  have q6 := of_decide_eq_false q
  have hok : cellOk n f i j = true := by
    unfold cellOk
    rw [e, decide_eq_true (p := 0 ≤ f) (by omega), decide_eq_true (p := f < 6) (by omega), decide_eq_true (p := 0 ≤ i) (by omega), decide_eq_true (p := i < n) (by omega), decide_eq_true (p := 0 ≤ j) (by omega), decide_eq_true (p := j < n) (by omega)]; rfl
  obtain ⟨r0, r1', n1, n2⟩ := cell_rng hok
  have hv : cellI n f i j = (f * n + j) * n + i := by unfold cellI; rw [if_pos hok]
  rw [hv] at r0 r1'
  have sq := sq_bd n1 n2
  have b1 : 0 ≤ f * n := Int.mul_nonneg (by omega) (by omega)
  have b2 : f * n ≤ 5 * n := Int.mul_le_mul_of_nonneg_right (by omega) (by omega)
  have b3 : 0 ≤ (f * n + j) * n := Int.mul_nonneg (by omega) (by omega)
  rw [wi (x := f * n) ⟨by omega, by omega⟩, wi (x := f * n + j) ⟨by omega, by omega⟩, wi (x := (f * n + j) * n) ⟨by omega, by omega⟩, wi (x := (f * n + j) * n + i) ⟨by omega, by omega⟩]
  exact congrArg r1 hv.symm
def Fx_cube_middle := fun (n f i j : Int) (post : List Int × Unit → Prop) => ∃ (h : (0 : Int) ≤ f ∧ f < (↑(6 : Nat) : Int)), ∃ (h : (List.replicate (3 : Nat) (K.arr (3 : Nat) (K.int
  IntKind.i64)).dflt).length = (3 : Nat) ∧ List.length (framesL.getD f.toNat (K.arr (3 : Nat) (K.arr (3 : Nat) (K.int IntKind.i64))).dflt) = (3 : Nat)), ∃ (h : (0 : Int) ≤ (0 : Int)
  ∧ (0 : Int) < (↑(3 : Nat) : Int) ∧ (3 : Nat) ≤ List.length (framesL.getD f.toNat (K.arr (3 : Nat) (K.arr (3 : Nat) (K.int IntKind.i64))).dflt)), ∃ (h : WTimes (List.getD
  (framesL.getD f.toNat (K.arr (3 : Nat) (K.arr (3 : Nat) (K.int IntKind.i64))).dflt) (Int.toNat (0 : Int)) (K.arr (3 : Nat) (K.int IntKind.i64)).dflt) n), ∀ (a : List Int × Unit),
  a = timesR (List.getD (framesL.getD f.toNat (K.arr (3 : Nat) (K.arr (3 : Nat) (K.int IntKind.i64))).dflt) (Int.toNat (0 : Int)) (K.arr (3 : Nat) (K.int IntKind.i64)).dflt) n → ∃
  (h : (0 : Int) ≤ (1 : Int) ∧ (1 : Int) < (↑(3 : Nat) : Int) ∧ (3 : Nat) ≤ List.length (framesL.getD f.toNat (K.arr (3 : Nat) (K.arr (3 : Nat) (K.int IntKind.i64))).dflt)), ∃ (h :
  WTimes (List.getD (framesL.getD f.toNat (K.arr (3 : Nat) (K.arr (3 : Nat) (K.int IntKind.i64))).dflt) (Int.toNat (1 : Int)) (K.arr (3 : Nat) (K.int IntKind.i64)).dflt)
  (IntKind.i64.wrap (IntKind.i64.wrap (IntKind.i64.wrap ((2 : Int) * i) + (1 : Int)) - n))), ∀ (a_1 : List Int × Unit), a_1 = timesR (List.getD (framesL.getD f.toNat (K.arr (3 :
  Nat) (K.arr (3 : Nat) (K.int IntKind.i64))).dflt) (Int.toNat (1 : Int)) (K.arr (3 : Nat) (K.int IntKind.i64)).dflt) (IntKind.i64.wrap (IntKind.i64.wrap (IntKind.i64.wrap ((2 :
  Int) * i) + (1 : Int)) - n)) → ∃ (h : WPlus a.fst a_1.fst), ∀ (a_2 : List Int × Unit), a_2 = plusR a.fst a_1.fst → ∃ (h : (0 : Int) ≤ (2 : Int) ∧ (2 : Int) < (↑(3 : Nat) : Int) ∧
  (3 : Nat) ≤ List.length (framesL.getD f.toNat (K.arr (3 : Nat) (K.arr (3 : Nat) (K.int IntKind.i64))).dflt)), ∃ (h : WTimes (List.getD (framesL.getD f.toNat (K.arr (3 : Nat)
  (K.arr (3 : Nat) (K.int IntKind.i64))).dflt) (Int.toNat (2 : Int)) (K.arr (3 : Nat) (K.int IntKind.i64)).dflt) (IntKind.i64.wrap (IntKind.i64.wrap (IntKind.i64.wrap ((2 : Int) *
  j) + (1 : Int)) - n))), ∀ (a : List Int × Unit), a = timesR (List.getD (framesL.getD f.toNat (K.arr (3 : Nat) (K.arr (3 : Nat) (K.int IntKind.i64))).dflt) (Int.toNat (2 : Int))
  (K.arr (3 : Nat) (K.int IntKind.i64)).dflt) (IntKind.i64.wrap (IntKind.i64.wrap (IntKind.i64.wrap ((2 : Int) * j) + (1 : Int)) - n)) → ∃ (h : WPlus a_2.fst a.fst), ∀ (a_3 : List
  Int × Unit), a_3 = plusR a_2.fst a.fst → ∃ (h : (List.replicate (3 : Nat) (0 : Int)).length = (3 : Nat) ∧ a_3.fst.length = (3 : Nat)), ∃ (h : a_3.fst.length = (3 : Nat)), post
  (a_3.fst, ())
theorem Lx_cube_middle (n : Int) (f : Int) (i : Int) (j : Int) (h : WMiddle n f i j) : Fx_cube_middle  n f i j (fun r => r = middleR' n f i j) := by
  have hh := h
  obtain ⟨n1, n2, f0, f5, i0, i1, j0, j1⟩ := h
  have fl : (framesL.getD f.toNat (K.arr (3 : Nat) (K.arr (3 : Nat) (K.int IntKind.i64))).dflt).length = 3 := frame_len f0 f5
  have b := frame_bd f0 f5
  have t0 : WTimes (wayAt (frameL f) 0) n := ⟨(b 0).mono (by decide), by omega, by omega⟩
  have w1 : IntKind.i64.wrap (IntKind.i64.wrap (IntKind.i64.wrap (2 * i) + 1) - n) = 2 * i + 1 - n := by
    rw [wi (x := 2 * i) ⟨by omega, by omega⟩, wi (x := 2 * i + 1) ⟨by omega, by omega⟩, wi ⟨by omega, by omega⟩]
  have w2 : IntKind.i64.wrap (IntKind.i64.wrap (IntKind.i64.wrap (2 * j) + 1) - n) = 2 * j + 1 - n := by
    rw [wi (x := 2 * j) ⟨by omega, by omega⟩, wi (x := 2 * j + 1) ⟨by omega, by omega⟩, wi ⟨by omega, by omega⟩]
  unfold Fx_cube_middle
  rw [w1, w2]
  have t1 : WTimes (wayAt (frameL f) 1) (2 * i + 1 - n) := ⟨(b 1).mono (by decide), by omega, by omega⟩
  have t2 : WTimes (wayAt (frameL f) 2) (2 * j + 1 - n) := ⟨(b 2).mono (by decide), by omega, by omega⟩
  have c0 := times_bd (q := 32) (b 0) (k := n) (by omega) (by omega)
  have c1 := times_bd (q := 32) (b 1) (k := 2 * i + 1 - n) (by omega) (by omega)
  have c2 := times_bd (q := 32) (b 2) (k := 2 * j + 1 - n) (by omega) (by omega)
  have p1 := plus_bd c0 c1
  refine ⟨⟨f0, by show f < 6; omega⟩, ⟨rfl, fl⟩, ⟨by decide, by decide, by omega⟩, t0, ?_⟩
  rintro _ rfl
  refine ⟨⟨by decide, by decide, by omega⟩, t1, ?_⟩
  rintro _ rfl
  refine ⟨⟨c0.mono (by decide), c1.mono (by decide)⟩, ?_⟩
  rintro _ rfl
  refine ⟨⟨by decide, by decide, by omega⟩, t2, ?_⟩
  rintro _ rfl
  refine ⟨⟨p1.mono (by decide), c2.mono (by decide)⟩, ?_⟩
  rintro _ rfl
  exact ⟨⟨rfl, rfl⟩, rfl, rfl⟩
def Fx_cube_index := fun (n a : Int) (post : Int × Unit → Prop) => ∃ (h : (2 : Int) ≠ (0 : Int)), post (imin (imax (IntKind.i64.wrap ((IntKind.i64.wrap (IntKind.i64.wrap (a + n) -
  (1 : Int))).tdiv (2 : Int))) (0 : Int)) (IntKind.i64.wrap (n - (1 : Int))), ())
theorem Lx_cube_index (n : Int) (a : Int) (h : WIndex n a) : Fx_cube_index  n a (fun r => r = indexR n a) := by
  obtain ⟨n1, n2, a1, a2⟩ := h
  have w1 : IntKind.i64.wrap (IntKind.i64.wrap (a + n) - 1) = a + n - 1 := by
    rw [wi (x := a + n) ⟨by omega, by omega⟩, wi ⟨by omega, by omega⟩]
  have w2 : IntKind.i64.wrap (n - 1) = n - 1 := wi ⟨by omega, by omega⟩
  have w3 : IntKind.i64.wrap (Int.tdiv (a + n - 1) 2) = Int.tdiv (a + n - 1) 2 := by
    have : (Int.tdiv (a + n - 1) 2).natAbs ≤ (a + n - 1).natAbs := by rw [Int.natAbs_tdiv]; exact Nat.div_le_self _ _
    exact wi ⟨by omega, by omega⟩
  exact ⟨by decide, by rw [w1, w2, w3]; rfl⟩
end Go.Lift

set_option linter.unusedVariables false
set_option linter.unusedSimpArgs false
namespace Go.Lift
open Go.Proofs
def Rax_cube_way_times : Cx := ⟨tabOf Ratab, conOf [], RaG⟩
theorem Rax_cube_way_times_ok : CxOk Tryd.prog Rax_cube_way_times := ⟨tabB_sound Ratab_ok, fun f c h => by cases h⟩
theorem Raat_cube_way_times : FnAt Tryd.prog 53 Tryd.f53.ntmps Tryd.f53.results.toList (Tryd.f53.body.getD .skip) := ⟨Tryd.f53, Tryd.func53, rfl, rfl, by simp, by decide⟩
theorem Raeq_cube_way_times (a : List Int) (k : Int) (post : (List Int) × Unit → Prop) : fnEval Rax_cube_way_times nHn Tryd.f53.ntmps Tryd.f53.results.toList (Tryd.f53.body.getD .skip) [kWay, .int .i64] [.snap kWay] (a, k, ()) post = Fx_cube_way_times  a k post := by kernel_rfl
theorem Rah_cube_way_times : Raq_cube_way_times.holds Tryd.prog RaG 53 :=
  nam_of_det (detP Rax_cube_way_times_ok Ramixed nHn Raat_cube_way_times (F := fun x post => Fx_cube_way_times  x.1 x.2.1 post) (fun x post => Raeq_cube_way_times x.1 x.2.1 post) fun x h w => Lx_cube_way_times  x.1 x.2.1 h w)
def Rax_cube_way_plus : Cx := ⟨tabOf Ratab, conOf [], RaG⟩
theorem Rax_cube_way_plus_ok : CxOk Tryd.prog Rax_cube_way_plus := ⟨tabB_sound Ratab_ok, fun f c h => by cases h⟩
theorem Raat_cube_way_plus : FnAt Tryd.prog 39 Tryd.f39.ntmps Tryd.f39.results.toList (Tryd.f39.body.getD .skip) := ⟨Tryd.f39, Tryd.func39, rfl, rfl, by simp, by decide⟩
theorem Raeq_cube_way_plus (a : List Int) (b : List Int) (post : (List Int) × Unit → Prop) : fnEval Rax_cube_way_plus nHn Tryd.f39.ntmps Tryd.f39.results.toList (Tryd.f39.body.getD .skip) [kWay, kWay] [.snap kWay] (a, b, ()) post = Fx_cube_way_plus  a b post := by kernel_rfl
theorem Rah_cube_way_plus : Raq_cube_way_plus.holds Tryd.prog RaG 39 :=
  nam_of_det (detP Rax_cube_way_plus_ok Ramixed nHn Raat_cube_way_plus (F := fun x post => Fx_cube_way_plus  x.1 x.2.1 post) (fun x post => Raeq_cube_way_plus x.1 x.2.1 post) fun x h w => Lx_cube_way_plus  x.1 x.2.1 h w)
def Rax_cube_way_dot : Cx := ⟨tabOf Ratab, conOf [], RaG⟩
theorem Rax_cube_way_dot_ok : CxOk Tryd.prog Rax_cube_way_dot := ⟨tabB_sound Ratab_ok, fun f c h => by cases h⟩
theorem Raat_cube_way_dot : FnAt Tryd.prog 41 Tryd.f41.ntmps Tryd.f41.results.toList (Tryd.f41.body.getD .skip) := ⟨Tryd.f41, Tryd.func41, rfl, rfl, by simp, by decide⟩
theorem Raeq_cube_way_dot (a : List Int) (b : List Int) (post : Int × Unit → Prop) : fnEval Rax_cube_way_dot nHn Tryd.f41.ntmps Tryd.f41.results.toList (Tryd.f41.body.getD .skip) [kWay, kWay] [.snap (.int .i64)] (a, b, ()) post = Fx_cube_way_dot  a b post := by kernel_rfl
theorem Rah_cube_way_dot : Raq_cube_way_dot.holds Tryd.prog RaG 41 :=
  nam_of_det (detP Rax_cube_way_dot_ok Ramixed nHn Raat_cube_way_dot (F := fun x post => Fx_cube_way_dot  x.1 x.2.1 post) (fun x post => Raeq_cube_way_dot x.1 x.2.1 post) fun x h w => Lx_cube_way_dot  x.1 x.2.1 h w)
def Rax_cube_frame_out : Cx := ⟨tabOf Ratab, conOf [(53, Raq_cube_way_times)], RaG⟩
theorem Rax_cube_frame_out_ok : CxOk Tryd.prog Rax_cube_frame_out := ⟨tabB_sound Ratab_ok, conOf_sound ⟨Rah_cube_way_times, trivial⟩⟩
theorem Raat_cube_frame_out : FnAt Tryd.prog 37 Tryd.f37.ntmps Tryd.f37.results.toList (Tryd.f37.body.getD .skip) := ⟨Tryd.f37, Tryd.func37, rfl, rfl, by simp, by decide⟩
theorem Raeq_cube_frame_out (f : List (List Int)) (s : Int) (post : (List Int) × Unit → Prop) : fnEval Rax_cube_frame_out nHn Tryd.f37.ntmps Tryd.f37.results.toList (Tryd.f37.body.getD .skip) [kFrame, .int .i64] [.snap kWay] (f, s, ()) post = Fx_cube_frame_out  f s post := by kernel_rfl
theorem Rah_cube_frame_out : Raq_cube_frame_out.holds Tryd.prog RaG 37 :=
  nam_of_det (detP Rax_cube_frame_out_ok Ramixed nHn Raat_cube_frame_out (F := fun x post => Fx_cube_frame_out  x.1 x.2.1 post) (fun x post => Raeq_cube_frame_out x.1 x.2.1 post) fun x h w => Lx_cube_frame_out  x.1 x.2.1 h w)
def Rax_cube_faceAt : Cx := ⟨tabOf Ratab, conOf [], RaG⟩
theorem Rax_cube_faceAt_ok : CxOk Tryd.prog Rax_cube_faceAt := ⟨tabB_sound Ratab_ok, fun f c h => by cases h⟩
theorem Raat_cube_faceAt : FnAt Tryd.prog 36 Tryd.f36.ntmps Tryd.f36.results.toList (Tryd.f36.body.getD .skip) := ⟨Tryd.f36, Tryd.func36, rfl, rfl, by simp, by decide⟩
theorem Raeq_cube_faceAt (c : List Int) (post : Int × Unit → Prop) : fnEval Rax_cube_faceAt Rahn_cube_faceAt Tryd.f36.ntmps Tryd.f36.results.toList (Tryd.f36.body.getD .skip) [kWay] [.snap (.int .i64)] (c, ()) post = Fx_cube_faceAt 77 c post := by kernel_rfl
theorem Rah_cube_faceAt : Raq_cube_faceAt.holds Tryd.prog RaG 36 :=
  nam_of_det (detP Rax_cube_faceAt_ok Ramixed Rahn_cube_faceAt Raat_cube_faceAt (F := fun x post => Fx_cube_faceAt 77 x.1 post) (fun x post => Raeq_cube_faceAt x.1 post) fun x _ w => Lx_cube_faceAt 77 x.1 w)
def Rax_cube_Cell : Cx := ⟨tabOf Ratab, conOf [(32, Raq_cube_good)], RaG⟩
theorem Rax_cube_Cell_ok : CxOk Tryd.prog Rax_cube_Cell := ⟨tabB_sound Ratab_ok, conOf_sound ⟨Rah_cube_good, trivial⟩⟩
theorem Raat_cube_Cell : FnAt Tryd.prog 35 Tryd.f35.ntmps Tryd.f35.results.toList (Tryd.f35.body.getD .skip) := ⟨Tryd.f35, Tryd.func35, rfl, rfl, by simp, by decide⟩
theorem Raeq_cube_Cell (n : Int) (f : Int) (i : Int) (j : Int) (post : Int × Unit → Prop) : fnEval Rax_cube_Cell Rahn_cube_Cell Tryd.f35.ntmps Tryd.f35.results.toList (Tryd.f35.body.getD .skip) [.int .i64, .int .i64, .int .i64, .int .i64] [.snap (.int .i64)] (n, f, i, j, ()) post = Fx_cube_Cell  n f i j post := by kernel_rfl
theorem Rah_cube_Cell : Raq_cube_Cell.holds Tryd.prog RaG 35 :=
  nam_of_det (detP Rax_cube_Cell_ok Ramixed Rahn_cube_Cell Raat_cube_Cell (F := fun x post => Fx_cube_Cell  x.1 x.2.1 x.2.2.1 x.2.2.2.1 post) (fun x post => Raeq_cube_Cell x.1 x.2.1 x.2.2.1 x.2.2.2.1 post) fun x h _ => Lx_cube_Cell  x.1 x.2.1 x.2.2.1 x.2.2.2.1 h)
def Rax_cube_middle : Cx := ⟨tabOf Ratab, conOf [(53, Raq_cube_way_times), (39, Raq_cube_way_plus)], RaG⟩
theorem Rax_cube_middle_ok : CxOk Tryd.prog Rax_cube_middle := ⟨tabB_sound Ratab_ok, conOf_sound ⟨Rah_cube_way_times, Rah_cube_way_plus, trivial⟩⟩
theorem Raat_cube_middle : FnAt Tryd.prog 38 Tryd.f38.ntmps Tryd.f38.results.toList (Tryd.f38.body.getD .skip) := ⟨Tryd.f38, Tryd.func38, rfl, rfl, by simp, by decide⟩
theorem Raeq_cube_middle (n : Int) (f : Int) (i : Int) (j : Int) (post : (List Int) × Unit → Prop) : fnEval Rax_cube_middle nHn Tryd.f38.ntmps Tryd.f38.results.toList (Tryd.f38.body.getD .skip) [.int .i64, .int .i64, .int .i64, .int .i64] [.snap kWay] (n, f, i, j, ()) post = Fx_cube_middle  n f i j post := by kernel_rfl
theorem Rah_cube_middle : Raq_cube_middle.holds Tryd.prog RaG 38 :=
  nam_of_det (detP Rax_cube_middle_ok Ramixed nHn Raat_cube_middle (F := fun x post => Fx_cube_middle  x.1 x.2.1 x.2.2.1 x.2.2.2.1 post) (fun x post => Raeq_cube_middle x.1 x.2.1 x.2.2.1 x.2.2.2.1 post) fun x h _ => Lx_cube_middle  x.1 x.2.1 x.2.2.1 x.2.2.2.1 h)
def Rax_cube_index : Cx := ⟨tabOf Ratab, conOf [], RaG⟩
theorem Rax_cube_index_ok : CxOk Tryd.prog Rax_cube_index := ⟨tabB_sound Ratab_ok, fun f c h => by cases h⟩
theorem Raat_cube_index : FnAt Tryd.prog 40 Tryd.f40.ntmps Tryd.f40.results.toList (Tryd.f40.body.getD .skip) := ⟨Tryd.f40, Tryd.func40, rfl, rfl, by simp, by decide⟩
theorem Raeq_cube_index (n : Int) (a : Int) (post : Int × Unit → Prop) : fnEval Rax_cube_index nHn Tryd.f40.ntmps Tryd.f40.results.toList (Tryd.f40.body.getD .skip) [.int .i64, .int .i64] [.snap (.int .i64)] (n, a, ()) post = Fx_cube_index  n a post := by kernel_rfl
theorem Rah_cube_index : Raq_cube_index.holds Tryd.prog RaG 40 :=
  nam_of_det (detP Rax_cube_index_ok Ramixed nHn Raat_cube_index (F := fun x post => Fx_cube_index  x.1 x.2.1 post) (fun x post => Raeq_cube_index x.1 x.2.1 post) fun x h _ => Lx_cube_index  x.1 x.2.1 h)
end Go.Lift

set_option linter.unusedVariables false
set_option linter.unusedSimpArgs false
namespace Go.Lift
open Go.Proofs
def Rax_cube_Beside : Cx := ⟨tabOf Ratab, conOf [(34, Raq_cube_Place), (35, Raq_cube_Cell), (37, Raq_cube_frame_out), (36, Raq_cube_faceAt), (38, Raq_cube_middle), (39, Raq_cube_way_plus), (41, Raq_cube_way_dot), (40, Raq_cube_index)], RaG⟩
theorem Rax_cube_Beside_ok : CxOk Tryd.prog Rax_cube_Beside := ⟨tabB_sound Ratab_ok, conOf_sound ⟨Rah_cube_Place, Rah_cube_Cell, Rah_cube_frame_out, Rah_cube_faceAt, Rah_cube_middle, Rah_cube_way_plus, Rah_cube_way_dot, Rah_cube_index, trivial⟩⟩
theorem Raat_cube_Beside : FnAt Tryd.prog 25 Tryd.f25.ntmps Tryd.f25.results.toList (Tryd.f25.body.getD .skip) := ⟨Tryd.f25, Tryd.func25, rfl, rfl, by simp, by decide⟩
theorem Raeq_cube_Beside (n : Int) (c : Int) (o : Int) (post : Int × Int × Unit → Prop) : fnEval Rax_cube_Beside Rahn_cube_Beside Tryd.f25.ntmps Tryd.f25.results.toList (Tryd.f25.body.getD .skip) [.int .i64, .int .i64, .int .i64] [.snap (.int .i64), .snap (.int .i64)] (n, c, o, ()) post = Fx_cube_Beside 73 79 77 n c o post := by kernel_rfl
theorem Rah_cube_Beside : Raq_cube_Beside.holds Tryd.prog RaG 25 :=
  nam_of_det (detP Rax_cube_Beside_ok Ramixed Rahn_cube_Beside Raat_cube_Beside (F := fun x post => Fx_cube_Beside 73 79 77 x.1 x.2.1 x.2.2.1 post) (fun x post => Raeq_cube_Beside x.1 x.2.1 x.2.2.1 post) fun x h _ => Lx_cube_Beside 73 79 77 x.1 x.2.1 x.2.2.1 h)
end Go.Lift

set_option linter.unusedVariables false
set_option linter.unusedSimpArgs false
namespace Go.Lift
def Fx_geom_Middle := fun (n c : Int) (post : (Nat × Nat × Nat) × Bool × Unit → Prop) => ∃ (h : II n c), Br (!(placeR4 n c).snd.snd.snd.fst) (post (((0 : Nat), (0 : Nat), (0 :
  Nat)), Bool.false, ())) (∃ (h : WRatio (IntKind.i64.wrap (IntKind.i64.wrap (IntKind.i64.wrap ((2 : Int) * (placeR4 n c).snd.fst) + (1 : Int)) - n)) n), ∃ (h : WRatio
  (IntKind.i64.wrap (IntKind.i64.wrap (IntKind.i64.wrap ((2 : Int) * (placeR4 n c).snd.snd.fst) + (1 : Int)) - n)) n), ∃ (h : WPoint (placeR4 n c).fst (ratioR (IntKind.i64.wrap
  (IntKind.i64.wrap (IntKind.i64.wrap ((2 : Int) * (placeR4 n c).snd.fst) + (1 : Int)) - n)) n).fst (ratioR (IntKind.i64.wrap (IntKind.i64.wrap (IntKind.i64.wrap ((2 : Int) *
  (placeR4 n c).snd.snd.fst) + (1 : Int)) - n)) n).fst), post (((pointR (placeR4 n c).fst (ratioR (IntKind.i64.wrap (IntKind.i64.wrap (IntKind.i64.wrap ((2 : Int) * (placeR4 n
  c).snd.fst) + (1 : Int)) - n)) n).fst (ratioR (IntKind.i64.wrap (IntKind.i64.wrap (IntKind.i64.wrap ((2 : Int) * (placeR4 n c).snd.snd.fst) + (1 : Int)) - n)) n).fst).fst.fst,
  (pointR (placeR4 n c).fst (ratioR (IntKind.i64.wrap (IntKind.i64.wrap (IntKind.i64.wrap ((2 : Int) * (placeR4 n c).snd.fst) + (1 : Int)) - n)) n).fst (ratioR (IntKind.i64.wrap
  (IntKind.i64.wrap (IntKind.i64.wrap ((2 : Int) * (placeR4 n c).snd.snd.fst) + (1 : Int)) - n)) n).fst).fst.snd.fst, (pointR (placeR4 n c).fst (ratioR (IntKind.i64.wrap
  (IntKind.i64.wrap (IntKind.i64.wrap ((2 : Int) * (placeR4 n c).snd.fst) + (1 : Int)) - n)) n).fst (ratioR (IntKind.i64.wrap (IntKind.i64.wrap (IntKind.i64.wrap ((2 : Int) *
  (placeR4 n c).snd.snd.fst) + (1 : Int)) - n)) n).fst).fst.snd.snd), Bool.true, ()))
theorem Lx_geom_Middle (n : Int) (c : Int) (h : II n c) : Fx_geom_Middle  n c (fun r => r = middleR n c) := by
  refine ⟨h, ?_⟩
  by_cases ok : placeOk n c = true
  · rw [place_eq ok]
    obtain ⟨n1, n2, f0, f5, i0, i1, j0, j1⟩ := place_mid ok
    dsimp only
    refine Br.intro (fun e => absurd e (by decide)) fun _ => ?_
    have w1 : IntKind.i64.wrap (IntKind.i64.wrap (IntKind.i64.wrap (2 * (c % n)) + 1) - n) = 2 * (c % n) + 1 - n := by
      rw [wi (x := 2 * (c % n)) ⟨by omega, by omega⟩, wi (x := 2 * (c % n) + 1) ⟨by omega, by omega⟩, wi ⟨by omega, by omega⟩]
    have w2 : IntKind.i64.wrap (IntKind.i64.wrap (IntKind.i64.wrap (2 * (c / n % n)) + 1) - n) = 2 * (c / n % n) + 1 - n := by
      rw [wi (x := 2 * (c / n % n)) ⟨by omega, by omega⟩, wi (x := 2 * (c / n % n) + 1) ⟨by omega, by omega⟩, wi ⟨by omega, by omega⟩]
    rw [w1, w2]
    refine ⟨⟨⟨by omega, by omega⟩, n1, h.1⟩, ⟨⟨by omega, by omega⟩, n1, h.1⟩, ⟨f0, f5, divQF_w _ _, divQF_w _ _⟩, ?_⟩
    unfold middleR; rw [if_pos ok]; rfl
  · rw [place_no ok]
    refine Br.intro (fun _ => ?_) fun e => absurd e (by decide)
    unfold middleR; rw [if_neg ok]
def Fx_geom_Length := fun (n c o : Int) (post : Nat × Unit → Prop) => ∃ (h : II n c), ∃ (h : (List.replicate (4 : Nat) ((K.flt Go.FloatKind.f64).pair ((K.flt Go.FloatKind.f64).pair
  (K.flt Go.FloatKind.f64))).dflt).length = (4 : Nat) ∧ (cornersR n c).fst.length = (4 : Nat)), Br (!(cornersR n c).snd.fst) (post ((0 : Nat), ())) (∀ (a : Bool), a = decide (o < (0
  : Int)) → Br a (post ((0 : Nat), ())) (∀ (a : Bool), a = decide (o > (3 : Int)) → Br a (post ((0 : Nat), ())) (∃ (h : (0 : Int) ≤ o ∧ o < (↑(4 : Nat) : Int)), ∃ (h :
  (List.replicate (2 : Nat) (0 : Int)).length = (2 : Nat) ∧ List.length ([[(1 : Int), (2 : Int)], [(3 : Int), (2 : Int)], [(0 : Int), (3 : Int)], [(0 : Int), (1 : Int)]].getD
  o.toNat (K.arr (2 : Nat) (K.int IntKind.i64)).dflt) = (2 : Nat)), ∃ (h : (0 : Int) ≤ (0 : Int) ∧ (0 : Int) < (↑(2 : Nat) : Int) ∧ (2 : Nat) ≤ List.length ([[(1 : Int), (2 : Int)],
  [(3 : Int), (2 : Int)], [(0 : Int), (3 : Int)], [(0 : Int), (1 : Int)]].getD o.toNat (K.arr (2 : Nat) (K.int IntKind.i64)).dflt)), ∃ (h : (0 : Int) ≤ List.getD ([[(1 : Int), (2 :
  Int)], [(3 : Int), (2 : Int)], [(0 : Int), (3 : Int)], [(0 : Int), (1 : Int)]].getD o.toNat (K.arr (2 : Nat) (K.int IntKind.i64)).dflt) (Int.toNat (0 : Int)) (0 : Int) ∧ List.getD
  ([[(1 : Int), (2 : Int)], [(3 : Int), (2 : Int)], [(0 : Int), (3 : Int)], [(0 : Int), (1 : Int)]].getD o.toNat (K.arr (2 : Nat) (K.int IntKind.i64)).dflt) (Int.toNat (0 : Int)) (0
  : Int) < (↑(4 : Nat) : Int) ∧ (4 : Nat) ≤ (cornersR n c).fst.length), ∃ (h : (0 : Int) ≤ (1 : Int) ∧ (1 : Int) < (↑(2 : Nat) : Int) ∧ (2 : Nat) ≤ List.length ([[(1 : Int), (2 :
  Int)], [(3 : Int), (2 : Int)], [(0 : Int), (3 : Int)], [(0 : Int), (1 : Int)]].getD o.toNat (K.arr (2 : Nat) (K.int IntKind.i64)).dflt)), ∃ (h : (0 : Int) ≤ List.getD ([[(1 :
  Int), (2 : Int)], [(3 : Int), (2 : Int)], [(0 : Int), (3 : Int)], [(0 : Int), (1 : Int)]].getD o.toNat (K.arr (2 : Nat) (K.int IntKind.i64)).dflt) (Int.toNat (1 : Int)) (0 : Int)
  ∧ List.getD ([[(1 : Int), (2 : Int)], [(3 : Int), (2 : Int)], [(0 : Int), (3 : Int)], [(0 : Int), (1 : Int)]].getD o.toNat (K.arr (2 : Nat) (K.int IntKind.i64)).dflt) (Int.toNat
  (1 : Int)) (0 : Int) < (↑(4 : Nat) : Int) ∧ (4 : Nat) ≤ (cornersR n c).fst.length), ∃ (h : WV2 ((cornersR n c).fst.getD (Int.toNat (List.getD ([[(1 : Int), (2 : Int)], [(3 : Int),
  (2 : Int)], [(0 : Int), (3 : Int)], [(0 : Int), (1 : Int)]].getD o.toNat (K.arr (2 : Nat) (K.int IntKind.i64)).dflt) (Int.toNat (0 : Int)) (0 : Int))) ((K.flt
  Go.FloatKind.f64).pair ((K.flt Go.FloatKind.f64).pair (K.flt Go.FloatKind.f64))).dflt) ((cornersR n c).fst.getD (Int.toNat (List.getD ([[(1 : Int), (2 : Int)], [(3 : Int), (2 :
  Int)], [(0 : Int), (3 : Int)], [(0 : Int), (1 : Int)]].getD o.toNat (K.arr (2 : Nat) (K.int IntKind.i64)).dflt) (Int.toNat (1 : Int)) (0 : Int))) ((K.flt Go.FloatKind.f64).pair
  ((K.flt Go.FloatKind.f64).pair (K.flt Go.FloatKind.f64))).dflt)), post ((gapR ((cornersR n c).fst.getD (Int.toNat (List.getD ([[(1 : Int), (2 : Int)], [(3 : Int), (2 : Int)], [(0
  : Int), (3 : Int)], [(0 : Int), (1 : Int)]].getD o.toNat (K.arr (2 : Nat) (K.int IntKind.i64)).dflt) (Int.toNat (0 : Int)) (0 : Int))) ((K.flt Go.FloatKind.f64).pair ((K.flt
  Go.FloatKind.f64).pair (K.flt Go.FloatKind.f64))).dflt) ((cornersR n c).fst.getD (Int.toNat (List.getD ([[(1 : Int), (2 : Int)], [(3 : Int), (2 : Int)], [(0 : Int), (3 : Int)],
  [(0 : Int), (1 : Int)]].getD o.toNat (K.arr (2 : Nat) (K.int IntKind.i64)).dflt) (Int.toNat (1 : Int)) (0 : Int))) ((K.flt Go.FloatKind.f64).pair ((K.flt Go.FloatKind.f64).pair
  (K.flt Go.FloatKind.f64))).dflt)).fst, ()))))
theorem Lx_geom_Length (n : Int) (c : Int) (o : Int) (h : III n c o) : Fx_geom_Length  n c o (fun r => r = lengthGR n c o) := by
  have cl := corners_len n c
  refine ⟨⟨h.1, h.2.1⟩, ⟨rfl, cl⟩, ?_⟩
  have no : besideOk n c o = false → ((0 : Nat), ()) = lengthGR n c o := fun q => congrArg r1 (by unfold lengthG; rw [if_neg (by rw [q]; decide)])
  rw [corners_ok]
  refine Br.intro (fun e => no ?_) fun e => ?_
  · unfold besideOk; rw [show placeOk n c = false by simpa using e]; rfl
  have ok : placeOk n c = true := by simpa using e
  rintro _ rfl
  refine Br.intro (fun e => no ?_) fun e => ?_
  · have e := of_decide_eq_true e
    unfold besideOk; rw [decide_eq_false (p := 0 ≤ o) (by omega)]; simp
  have o0 := of_decide_eq_false e
  rintro _ rfl
  refine Br.intro (fun e => no ?_) fun e => ?_
  · have e := of_decide_eq_true e
    unfold besideOk; rw [decide_eq_false (p := o < 4) (by omega)]; simp
  have o4 := of_decide_eq_false e
  have o0 : 0 ≤ o := by omega
  have o4 : o < 4 := by omega
  have okb : besideOk n c o = true := by unfold besideOk; rw [ok, decide_eq_true o0, decide_eq_true o4]; rfl
  have hc : ∀ i : Int, 0 ≤ i → i ≤ 3 → (cornersR n c).1.getD i.toNat ((K.flt Go.FloatKind.f64).pair ((K.flt Go.FloatKind.f64).pair (K.flt Go.FloatKind.f64))).dflt = cornA n c i := fun i a b => corner_at ok a b _
  have c0 := hc 0 (by decide) (by decide)
  have c1 := hc 1 (by decide) (by decide)
  have c2 := hc 2 (by decide) (by decide)
  have c3 := hc 3 (by decide) (by decide)
  have fin : ∀ A B : Nat × Nat × Nat, A = cornA n c (endA o) → B = cornA n c (endB o) → (gapQ A B, ()) = lengthGR n c o := by
    intro A B hA hB
    rw [hA, hB]; exact congrArg r1 (by unfold lengthG; rw [if_pos okb])
  have wA : ∀ i, WV (cornA n c i) := cornA_w n c
  generalize hQ : (cornersR n c).fst = Q at *
  rcases side_cases o0 o4 with rfl | rfl | rfl | rfl
  · exact ⟨⟨by decide, by decide⟩, ⟨rfl, rfl⟩, ⟨by decide, by decide, by decide⟩, ⟨by decide, by decide, Nat.le_of_eq cl.symm⟩, ⟨by decide, by decide, by decide⟩, ⟨by decide, by decide, Nat.le_of_eq cl.symm⟩, ⟨c1 ▸ wA 1, c2 ▸ wA 2⟩, fin _ _ c1 c2⟩
  · exact ⟨⟨by decide, by decide⟩, ⟨rfl, rfl⟩, ⟨by decide, by decide, by decide⟩, ⟨by decide, by decide, Nat.le_of_eq cl.symm⟩, ⟨by decide, by decide, by decide⟩, ⟨by decide, by decide, Nat.le_of_eq cl.symm⟩, ⟨c3 ▸ wA 3, c2 ▸ wA 2⟩, fin _ _ c3 c2⟩
  · exact ⟨⟨by decide, by decide⟩, ⟨rfl, rfl⟩, ⟨by decide, by decide, by decide⟩, ⟨by decide, by decide, Nat.le_of_eq cl.symm⟩, ⟨by decide, by decide, by decide⟩, ⟨by decide, by decide, Nat.le_of_eq cl.symm⟩, ⟨c0 ▸ wA 0, c3 ▸ wA 3⟩, fin _ _ c0 c3⟩
  · exact ⟨⟨by decide, by decide⟩, ⟨rfl, rfl⟩, ⟨by decide, by decide, by decide⟩, ⟨by decide, by decide, Nat.le_of_eq cl.symm⟩, ⟨by decide, by decide, by decide⟩, ⟨by decide, by decide, Nat.le_of_eq cl.symm⟩, ⟨c0 ▸ wA 0, c1 ▸ wA 1⟩, fin _ _ c0 c1⟩
def Fx_geom_Gap := fun (n c o : Int) (post : Nat × Unit → Prop) => ∃ (h : III n c o), ∀ (a : Int × Int × Unit), a = besideR n c o → ∃ (h : II n c), ∀ (a_1 : (Nat × Nat × Nat) × Bool
  × Unit), a_1 = middleR n c → ∃ (h : II n a.fst), ∀ (a_2 : (Nat × Nat × Nat) × Bool × Unit), a_2 = middleR n a.fst → Br (!a_1.snd.fst) (post ((0 : Nat), ())) (Br (!a_2.snd.fst)
  (post ((0 : Nat), ())) (∃ (h : WV2 (a_1.fst.fst, a_1.fst.snd.fst, a_1.fst.snd.snd) (a_2.fst.fst, a_2.fst.snd.fst, a_2.fst.snd.snd)), post ((gapR (a_1.fst.fst, a_1.fst.snd.fst,
  a_1.fst.snd.snd) (a_2.fst.fst, a_2.fst.snd.fst, a_2.fst.snd.snd)).fst, ())))
theorem Lx_geom_Gap (n : Int) (c : Int) (o : Int) (h : III n c o) : Fx_geom_Gap  n c o (fun r => r = gapGR n c o) := by
  have br := beside_rng n c o
  refine ⟨h, ?_⟩
  rintro ⟨b, q, ⟨⟩⟩ hb
  have eb : b = (besideI n c o).1 := congrArg Prod.fst hb
  rw [← eb] at br
  refine ⟨⟨h.1, h.2.1⟩, ?_⟩
  rintro ⟨⟨A1, A2, A3⟩, p, ⟨⟩⟩ hA
  refine ⟨⟨h.1, by omega, by omega⟩, ?_⟩
  rintro ⟨⟨B1, B2, B3⟩, r, ⟨⟩⟩ hB
  have hA : ((A1, A2, A3), p, ()) = middleR n c := hA
  have hB : ((B1, B2, B3), r, ()) = middleR n b := hB
  have key : ∀ z, middleR n z = if placeOk n z then (middleQ n z, true, ()) else ((0, 0, 0), false, ()) := fun z => rfl
  have bt : ∀ {z : Bool}, z = true → ¬ (!z) = true := fun {z} e => by rw [e]; decide
  have bf : ∀ {z : Bool}, z = false → ¬ (!z) = false := fun {z} e => by rw [e]; decide
  by_cases o1 : placeOk n c = true
  · rw [key, if_pos o1] at hA
    obtain ⟨eA, e1⟩ := Prod.mk.inj hA
    have ep : p = true := congrArg Prod.fst e1
    refine Br.intro (fun e => absurd e (bt ep)) fun _ => ?_
    by_cases o2 : placeOk n b = true
    · rw [key, if_pos o2] at hB
      obtain ⟨eB, e2⟩ := Prod.mk.inj hB
      have er : r = true := congrArg Prod.fst e2
      refine Br.intro (fun e => absurd e (bt er)) fun _ => ?_
      have hw : WV2 (A1, A2, A3) (B1, B2, B3) := ⟨by rw [eA]; exact middleQ_w _ _, by rw [eB]; exact middleQ_w _ _⟩
      have hg : gapQ (A1, A2, A3) (B1, B2, B3) = gapG n c o := by
        rw [eA, eB]; unfold gapG; rw [← eb, o1, o2, if_pos (by decide)]
      exact ⟨hw, congrArg r1 hg⟩
    · rw [key, if_neg o2] at hB
      obtain ⟨eB, e2⟩ := Prod.mk.inj hB
      have er : r = false := congrArg Prod.fst e2
      refine Br.intro (fun _ => congrArg r1 ?_) fun e => absurd e (bf er)
      unfold gapG; rw [← eb, o1, show placeOk n b = false by simpa using o2]; rfl
  · rw [key, if_neg o1] at hA
    obtain ⟨eA, e1⟩ := Prod.mk.inj hA
    have ep : p = false := congrArg Prod.fst e1
    refine Br.intro (fun _ => congrArg r1 ?_) fun e => absurd e (bf ep)
    unfold gapG; rw [show placeOk n c = false by simpa using o1]; rfl
end Go.Lift
