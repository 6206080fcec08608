/- tarnlaw25.SaveDecodes: at every input it returns true and leaves the arguments as they were; cube.frames and geom.frames read as the program's text lays them. -/
import Derived.Test.YtomopcclgokehaaGreatDoorTie
import Derived.Test.YtomopcclgokehaaGreatDoorCards
import Derived.Test.YtomopcclgokehaaGreatDoorPtF
set_option linter.unusedVariables false
set_option linter.unusedSimpArgs false
set_option linter.unusedSectionVars false
set_option linter.unusedVariables false
set_option linter.unusedSimpArgs false
namespace Go.Lift
def Fx_save_Decode := fun (ty3 ty25 ty28 ty80 : Nat) (b : List Int) (post : Int × (List Nat × List Int × List Int × List Nat × Int × Int) × Int × Unit → Prop) => ∀ (a : Bool), a =
  decide ((↑b.length : Int) ≥ (21 : Int)) → Br a (∃ (h : (0 : Int) ≤ (4 : Int) ∧ (4 : Int) < (↑b.length : Int)), ∃ (h : (0 : Int) ≤ (0 : Int) ∧ (0 : Int) ≤ (4 : Int) ∧ (4 : Int) ≤
  (↑b.length : Int)), ∀ (a : Bool), (a = if Bool.false = Bool.true then !decide (List.map byteOf (List.take ((4 : Int) - (0 : Int)).toNat (List.drop (Int.toNat (0 : Int)) b)) =
  strBytes { data := #[(84 : UInt8), (65 : UInt8), (82 : UInt8), (78 : UInt8)] }) else decide (List.map byteOf (List.take ((4 : Int) - (0 : Int)).toNat (List.drop (Int.toNat (0 :
  Int)) b)) = strBytes { data := #[(84 : UInt8), (65 : UInt8), (82 : UInt8), (78 : UInt8)] })) → Br a (∀ (a : Bool), a = decide (IntKind.i64.wrap (b.getD (Int.toNat (4 : Int)) (0 :
  Int)) ≥ (1 : Int)) → Br a (∀ (a : Bool), a = decide (IntKind.i64.wrap (b.getD (Int.toNat (4 : Int)) (0 : Int)) ≤ (32 : Int)) → Br a (∃ (h : WSide (IntKind.i64.wrap (b.getD
  (Int.toNat (4 : Int)) (0 : Int)))), ∀ (a : Int × Unit), a = sizeR (IntKind.i64.wrap (b.getD (Int.toNat (4 : Int)) (0 : Int))) → ∀ (a_1 : Bool), a_1 = decide ((↑b.length : Int) ≥
  a.fst) → Br a_1 (∃ (h : WSide (IntKind.i64.wrap (b.getD (Int.toNat (4 : Int)) (0 : Int)))), ∀ (a : Int × Unit), a = sizeR (IntKind.i64.wrap (b.getD (Int.toNat (4 : Int)) (0 :
  Int))) → ∀ (a_2 : Bool), a_2 = ((↑b.length : Int) == a.fst) → Br a_2 (∃ (h : (0 : Int) ≤ IntKind.i64.wrap ((↑b.length : Int) - (8 : Int)) ∧ IntKind.i64.wrap ((↑b.length : Int) -
  (8 : Int)) ≤ (↑b.length : Int) ∧ (↑b.length : Int) ≤ (↑b.length : Int)), ∃ (h : (0 : Int) ≤ IntKind.i64.wrap ((↑b.length : Int) - (8 : Int)) ∧ IntKind.i64.wrap ((↑b.length : Int)
  - (8 : Int)) ≤ (↑b.length : Int)), ∀ (a : Bool), a = decide ((↑(List.take ((↑b.length : Int) - IntKind.i64.wrap ((↑b.length : Int) - (8 : Int))).toNat (List.drop (IntKind.i64.wrap
  ((↑b.length : Int) - (8 : Int))).toNat b)).length : Int) < (8 : Int)) → Br a False (HIs [HObj.box Md.rw ty3 [SV.val (Go.Value.int IntKind.i64 (IntKind.i64.wrap (b.getD (Int.toNat
  (4 : Int)) (0 : Int))))], HObj.box Md.rw ty25 [SV.val (Go.Value.slice Option.none (0 : Nat) (0 : Nat)), SV.val (Go.Value.slice Option.none (0 : Nat) (0 : Nat)), SV.val
  (Go.Value.slice Option.none (0 : Nat) (0 : Nat)), SV.val (Go.Value.slice Option.none (0 : Nat) (0 : Nat)), SV.val (Go.Value.int IntKind.i64 (0 : Int)), SV.val (Go.Value.int
  IntKind.i64 (0 : Int))], HObj.box Md.rw ty28 [SV.val (Go.Value.int IntKind.i64 (0 : Int))], HObj.box Md.rw ty80 [SV.data (K.int IntKind.u8).slice (List.take ((↑b.length : Int) -
  IntKind.i64.wrap ((↑b.length : Int) - (8 : Int))).toNat (List.drop (IntKind.i64.wrap ((↑b.length : Int) - (8 : Int))).toNat b))]] [HObj.box Md.rw ty3 [SV.val (Go.Value.int
  IntKind.i64 (IntKind.i64.wrap (b.getD (Int.toNat (4 : Int)) (0 : Int))))], HObj.box Md.rw ty25 [SV.val (Go.Value.slice Option.none (0 : Nat) (0 : Nat)), SV.val (Go.Value.slice
  Option.none (0 : Nat) (0 : Nat)), SV.val (Go.Value.slice Option.none (0 : Nat) (0 : Nat)), SV.val (Go.Value.slice Option.none (0 : Nat) (0 : Nat)), SV.val (Go.Value.int
  IntKind.i64 (0 : Int)), SV.val (Go.Value.int IntKind.i64 (0 : Int))], HObj.box Md.rw ty28 [SV.val (Go.Value.int IntKind.i64 (0 : Int))], HObj.box Md.rw ty80 [SV.data (K.int
  IntKind.u8).slice (List.take ((↑b.length : Int) - IntKind.i64.wrap ((↑b.length : Int) - (8 : Int))).toNat (List.drop (IntKind.i64.wrap ((↑b.length : Int) - (8 : Int))).toNat b))]]
  ∧ ∃ (I : Int × Int × Unit → Unit → Prop), ∃ (μ : Int × Int × Unit → Unit → Nat), I ((0 : Int), (7 : Int), ()) () ∧ ∀ (x : Int × Int × Unit) (y : Unit), I x y → ∀ (a : Bool), a =
  decide (x.snd.fst ≥ (0 : Int)) → Br a (∃ (h : (0 : Int) ≤ (8 : Int)), ∃ (h : (0 : Int) ≤ x.snd.fst ∧ x.snd.fst < (↑(List.take ((↑b.length : Int) - IntKind.i64.wrap ((↑b.length :
  Int) - (8 : Int))).toNat (List.drop (IntKind.i64.wrap ((↑b.length : Int) - (8 : Int))).toNat b)).length : Int)), HIs [HObj.box Md.rw ty3 [SV.val (Go.Value.int IntKind.i64
  (IntKind.i64.wrap (b.getD (Int.toNat (4 : Int)) (0 : Int))))], HObj.box Md.rw ty25 [SV.val (Go.Value.slice Option.none (0 : Nat) (0 : Nat)), SV.val (Go.Value.slice Option.none (0
  : Nat) (0 : Nat)), SV.val (Go.Value.slice Option.none (0 : Nat) (0 : Nat)), SV.val (Go.Value.slice Option.none (0 : Nat) (0 : Nat)), SV.val (Go.Value.int IntKind.i64 (0 : Int)),
  SV.val (Go.Value.int IntKind.i64 (0 : Int))], HObj.box Md.rw ty28 [SV.val (Go.Value.int IntKind.i64 (0 : Int))], HObj.box Md.rw ty80 [SV.data (K.int IntKind.u8).slice (List.take
  ((↑b.length : Int) - IntKind.i64.wrap ((↑b.length : Int) - (8 : Int))).toNat (List.drop (IntKind.i64.wrap ((↑b.length : Int) - (8 : Int))).toNat b))]] [HObj.box Md.rw ty3 [SV.val
  (Go.Value.int IntKind.i64 (IntKind.i64.wrap (b.getD (Int.toNat (4 : Int)) (0 : Int))))], HObj.box Md.rw ty25 [SV.val (Go.Value.slice Option.none (0 : Nat) (0 : Nat)), SV.val
  (Go.Value.slice Option.none (0 : Nat) (0 : Nat)), SV.val (Go.Value.slice Option.none (0 : Nat) (0 : Nat)), SV.val (Go.Value.slice Option.none (0 : Nat) (0 : Nat)), SV.val
  (Go.Value.int IntKind.i64 (0 : Int)), SV.val (Go.Value.int IntKind.i64 (0 : Int))], HObj.box Md.rw ty28 [SV.val (Go.Value.int IntKind.i64 (0 : Int))], HObj.box Md.rw ty80 [SV.data
  (K.int IntKind.u8).slice (List.take ((↑b.length : Int) - IntKind.i64.wrap ((↑b.length : Int) - (8 : Int))).toNat (List.drop (IntKind.i64.wrap ((↑b.length : Int) - (8 :
  Int))).toNat b))]] ∧ I (Go.bits Go.BinOp.or IntKind.u64 (IntKind.u64.wrap (x.fst * (2 : Int) ^ Min.min (Int.toNat (8 : Int)) IntKind.u64.bits)) (IntKind.u64.wrap ((List.take
  ((↑b.length : Int) - IntKind.i64.wrap ((↑b.length : Int) - (8 : Int))).toNat (List.drop (IntKind.i64.wrap ((↑b.length : Int) - (8 : Int))).toNat b)).getD x.snd.fst.toNat (0 :
  Int))), IntKind.i64.wrap (x.snd.fst - (1 : Int)), ()) () ∧ μ (Go.bits Go.BinOp.or IntKind.u64 (IntKind.u64.wrap (x.fst * (2 : Int) ^ Min.min (Int.toNat (8 : Int))
  IntKind.u64.bits)) (IntKind.u64.wrap ((List.take ((↑b.length : Int) - IntKind.i64.wrap ((↑b.length : Int) - (8 : Int))).toNat (List.drop (IntKind.i64.wrap ((↑b.length : Int) - (8
  : Int))).toNat b)).getD x.snd.fst.toNat (0 : Int))), IntKind.i64.wrap (x.snd.fst - (1 : Int)), ()) () < μ x y) (∃ (h : (0 : Int) ≤ (8 : Int) ∧ (8 : Int) ≤ (↑(List.take ((↑b.length
  : Int) - IntKind.i64.wrap ((↑b.length : Int) - (8 : Int))).toNat (List.drop (IntKind.i64.wrap ((↑b.length : Int) - (8 : Int))).toNat b)).length : Int) ∧ (↑(List.take ((↑b.length :
  Int) - IntKind.i64.wrap ((↑b.length : Int) - (8 : Int))).toNat (List.drop (IntKind.i64.wrap ((↑b.length : Int) - (8 : Int))).toNat b)).length : Int) ≤ (↑(List.take ((↑b.length :
  Int) - IntKind.i64.wrap ((↑b.length : Int) - (8 : Int))).toNat (List.drop (IntKind.i64.wrap ((↑b.length : Int) - (8 : Int))).toNat b)).length : Int)), ∃ (h : BLs (List.take
  (IntKind.i64.wrap ((↑b.length : Int) - (8 : Int))).toNat b)), ∀ (a : Int × Unit), a = sumR (List.take (IntKind.i64.wrap ((↑b.length : Int) - (8 : Int))).toNat b) → ∀ (a_3 : Bool),
  a_3 = (x.fst == a.fst) → Br a_3 (∃ (h : (0 : Int) ≤ (5 : Int) ∧ (5 : Int) ≤ (↑b.length : Int) ∧ (↑b.length : Int) ≤ (↑b.length : Int)), ∀ (m : Int), m = IntKind.i64.wrap
  (IntKind.i64.wrap ((6 : Int) * IntKind.i64.wrap (b.getD (Int.toNat (4 : Int)) (0 : Int))) * IntKind.i64.wrap (b.getD (Int.toNat (4 : Int)) (0 : Int))) → ∀ (a : Bool), a = decide
  ((↑(List.take ((↑b.length : Int) - (5 : Int)).toNat (List.drop (Int.toNat (5 : Int)) b)).length : Int) < (8 : Int)) → Br a False (HIs [HObj.box Md.rw ty3 [SV.val (Go.Value.int
  IntKind.i64 (IntKind.i64.wrap (b.getD (Int.toNat (4 : Int)) (0 : Int))))], HObj.box Md.rw ty25 [SV.val (Go.Value.slice Option.none (0 : Nat) (0 : Nat)), SV.val (Go.Value.slice
  Option.none (0 : Nat) (0 : Nat)), SV.val (Go.Value.slice Option.none (0 : Nat) (0 : Nat)), SV.val (Go.Value.slice Option.none (0 : Nat) (0 : Nat)), SV.val (Go.Value.int
  IntKind.i64 (0 : Int)), SV.val (Go.Value.int IntKind.i64 (0 : Int))], HObj.box Md.rw ty28 [SV.val (Go.Value.int IntKind.i64 (0 : Int))], HObj.box Md.rw ty80 [SV.data (K.int
  IntKind.u8).slice (List.take ((↑(List.take ((↑b.length : Int) - IntKind.i64.wrap ((↑b.length : Int) - (8 : Int))).toNat (List.drop (IntKind.i64.wrap ((↑b.length : Int) - (8 :
  Int))).toNat b)).length : Int) - (8 : Int)).toNat (List.drop (Int.toNat (8 : Int)) (List.take ((↑b.length : Int) - IntKind.i64.wrap ((↑b.length : Int) - (8 : Int))).toNat
  (List.drop (IntKind.i64.wrap ((↑b.length : Int) - (8 : Int))).toNat b))))], HObj.box Md.rw ty80 [SV.data (K.int IntKind.u8).slice (List.take ((↑b.length : Int) - (5 : Int)).toNat
  (List.drop (Int.toNat (5 : Int)) b))]] [HObj.box Md.rw ty3 [SV.val (Go.Value.int IntKind.i64 (IntKind.i64.wrap (b.getD (Int.toNat (4 : Int)) (0 : Int))))], HObj.box Md.rw ty25
  [SV.val (Go.Value.slice Option.none (0 : Nat) (0 : Nat)), SV.val (Go.Value.slice Option.none (0 : Nat) (0 : Nat)), SV.val (Go.Value.slice Option.none (0 : Nat) (0 : Nat)), SV.val
  (Go.Value.slice Option.none (0 : Nat) (0 : Nat)), SV.val (Go.Value.int IntKind.i64 (0 : Int)), SV.val (Go.Value.int IntKind.i64 (0 : Int))], HObj.box Md.rw ty28 [SV.val
  (Go.Value.int IntKind.i64 (0 : Int))], HObj.box Md.rw ty80 [SV.data (K.int IntKind.u8).slice (List.take ((↑(List.take ((↑b.length : Int) - IntKind.i64.wrap ((↑b.length : Int) - (8
  : Int))).toNat (List.drop (IntKind.i64.wrap ((↑b.length : Int) - (8 : Int))).toNat b)).length : Int) - (8 : Int)).toNat (List.drop (Int.toNat (8 : Int)) (List.take ((↑b.length :
  Int) - IntKind.i64.wrap ((↑b.length : Int) - (8 : Int))).toNat (List.drop (IntKind.i64.wrap ((↑b.length : Int) - (8 : Int))).toNat b))))], HObj.box Md.rw ty80 [SV.data (K.int
  IntKind.u8).slice (List.take ((↑b.length : Int) - (5 : Int)).toNat (List.drop (Int.toNat (5 : Int)) b))]] ∧ ∃ (I : Int × Int × Unit → Unit → Prop), ∃ (μ : Int × Int × Unit → Unit
  → Nat), I ((0 : Int), (7 : Int), ()) () ∧ ∀ (x : Int × Int × Unit) (y : Unit), I x y → ∀ (a : Bool), a = decide (x.snd.fst ≥ (0 : Int)) → Br a (∃ (h : (0 : Int) ≤ (8 : Int)), ∃ (h
  : (0 : Int) ≤ x.snd.fst ∧ x.snd.fst < (↑(List.take ((↑b.length : Int) - (5 : Int)).toNat (List.drop (Int.toNat (5 : Int)) b)).length : Int)), HIs [HObj.box Md.rw ty3 [SV.val
  (Go.Value.int IntKind.i64 (IntKind.i64.wrap (b.getD (Int.toNat (4 : Int)) (0 : Int))))], HObj.box Md.rw ty25 [SV.val (Go.Value.slice Option.none (0 : Nat) (0 : Nat)), SV.val
  (Go.Value.slice Option.none (0 : Nat) (0 : Nat)), SV.val (Go.Value.slice Option.none (0 : Nat) (0 : Nat)), SV.val (Go.Value.slice Option.none (0 : Nat) (0 : Nat)), SV.val
  (Go.Value.int IntKind.i64 (0 : Int)), SV.val (Go.Value.int IntKind.i64 (0 : Int))], HObj.box Md.rw ty28 [SV.val (Go.Value.int IntKind.i64 (0 : Int))], HObj.box Md.rw ty80 [SV.data
  (K.int IntKind.u8).slice (List.take ((↑(List.take ((↑b.length : Int) - IntKind.i64.wrap ((↑b.length : Int) - (8 : Int))).toNat (List.drop (IntKind.i64.wrap ((↑b.length : Int) - (8
  : Int))).toNat b)).length : Int) - (8 : Int)).toNat (List.drop (Int.toNat (8 : Int)) (List.take ((↑b.length : Int) - IntKind.i64.wrap ((↑b.length : Int) - (8 : Int))).toNat
  (List.drop (IntKind.i64.wrap ((↑b.length : Int) - (8 : Int))).toNat b))))], HObj.box Md.rw ty80 [SV.data (K.int IntKind.u8).slice (List.take ((↑b.length : Int) - (5 : Int)).toNat
  (List.drop (Int.toNat (5 : Int)) b))]] [HObj.box Md.rw ty3 [SV.val (Go.Value.int IntKind.i64 (IntKind.i64.wrap (b.getD (Int.toNat (4 : Int)) (0 : Int))))], HObj.box Md.rw ty25
  [SV.val (Go.Value.slice Option.none (0 : Nat) (0 : Nat)), SV.val (Go.Value.slice Option.none (0 : Nat) (0 : Nat)), SV.val (Go.Value.slice Option.none (0 : Nat) (0 : Nat)), SV.val
  (Go.Value.slice Option.none (0 : Nat) (0 : Nat)), SV.val (Go.Value.int IntKind.i64 (0 : Int)), SV.val (Go.Value.int IntKind.i64 (0 : Int))], HObj.box Md.rw ty28 [SV.val
  (Go.Value.int IntKind.i64 (0 : Int))], HObj.box Md.rw ty80 [SV.data (K.int IntKind.u8).slice (List.take ((↑(List.take ((↑b.length : Int) - IntKind.i64.wrap ((↑b.length : Int) - (8
  : Int))).toNat (List.drop (IntKind.i64.wrap ((↑b.length : Int) - (8 : Int))).toNat b)).length : Int) - (8 : Int)).toNat (List.drop (Int.toNat (8 : Int)) (List.take ((↑b.length :
  Int) - IntKind.i64.wrap ((↑b.length : Int) - (8 : Int))).toNat (List.drop (IntKind.i64.wrap ((↑b.length : Int) - (8 : Int))).toNat b))))], HObj.box Md.rw ty80 [SV.data (K.int
  IntKind.u8).slice (List.take ((↑b.length : Int) - (5 : Int)).toNat (List.drop (Int.toNat (5 : Int)) b))]] ∧ I (Go.bits Go.BinOp.or IntKind.u64 (IntKind.u64.wrap (x.fst * (2 : Int)
  ^ Min.min (Int.toNat (8 : Int)) IntKind.u64.bits)) (IntKind.u64.wrap ((List.take ((↑b.length : Int) - (5 : Int)).toNat (List.drop (Int.toNat (5 : Int)) b)).getD x.snd.fst.toNat (0
  : Int))), IntKind.i64.wrap (x.snd.fst - (1 : Int)), ()) () ∧ μ (Go.bits Go.BinOp.or IntKind.u64 (IntKind.u64.wrap (x.fst * (2 : Int) ^ Min.min (Int.toNat (8 : Int))
  IntKind.u64.bits)) (IntKind.u64.wrap ((List.take ((↑b.length : Int) - (5 : Int)).toNat (List.drop (Int.toNat (5 : Int)) b)).getD x.snd.fst.toNat (0 : Int))), IntKind.i64.wrap
  (x.snd.fst - (1 : Int)), ()) () < μ x y) (∃ (h : (0 : Int) ≤ (8 : Int) ∧ (8 : Int) ≤ (↑(List.take ((↑b.length : Int) - (5 : Int)).toNat (List.drop (Int.toNat (5 : Int)) b)).length
  : Int) ∧ (↑(List.take ((↑b.length : Int) - (5 : Int)).toNat (List.drop (Int.toNat (5 : Int)) b)).length : Int) ≤ (↑(List.take ((↑b.length : Int) - (5 : Int)).toNat (List.drop
  (Int.toNat (5 : Int)) b)).length : Int)), ∀ (a : Bool), a = decide ((↑(List.take ((↑(List.take ((↑b.length : Int) - (5 : Int)).toNat (List.drop (Int.toNat (5 : Int)) b)).length :
  Int) - (8 : Int)).toNat (List.drop (Int.toNat (8 : Int)) (List.take ((↑b.length : Int) - (5 : Int)).toNat (List.drop (Int.toNat (5 : Int)) b)))).length : Int) < (8 : Int)) → Br a
  False (HIs [HObj.box Md.rw ty3 [SV.val (Go.Value.int IntKind.i64 (IntKind.i64.wrap (b.getD (Int.toNat (4 : Int)) (0 : Int))))], HObj.box Md.rw (25 : Nat) [SV.val (Go.Value.slice
  Option.none (0 : Nat) (0 : Nat)), SV.val (Go.Value.slice Option.none (0 : Nat) (0 : Nat)), SV.val (Go.Value.slice Option.none (0 : Nat) (0 : Nat)), SV.val (Go.Value.slice
  Option.none (0 : Nat) (0 : Nat)), SV.val (Go.Value.int IntKind.i64 (0 : Int)), SV.val (Go.Value.int IntKind.i64 (IntKind.i64.wrap x.fst))], HObj.box Md.rw (28 : Nat) [SV.val
  (Go.Value.int IntKind.i64 (0 : Int))], HObj.box Md.rw (80 : Nat) [SV.data (K.int IntKind.u8).slice (List.take ((↑(List.take ((↑b.length : Int) - IntKind.i64.wrap ((↑b.length :
  Int) - (8 : Int))).toNat (List.drop (IntKind.i64.wrap ((↑b.length : Int) - (8 : Int))).toNat b)).length : Int) - (8 : Int)).toNat (List.drop (Int.toNat (8 : Int)) (List.take
  ((↑b.length : Int) - IntKind.i64.wrap ((↑b.length : Int) - (8 : Int))).toNat (List.drop (IntKind.i64.wrap ((↑b.length : Int) - (8 : Int))).toNat b))))], HObj.box Md.rw (80 : Nat)
  [SV.data (K.int IntKind.u8).slice (List.take ((↑(List.take ((↑b.length : Int) - (5 : Int)).toNat (List.drop (Int.toNat (5 : Int)) b)).length : Int) - (8 : Int)).toNat (List.drop
  (Int.toNat (8 : Int)) (List.take ((↑b.length : Int) - (5 : Int)).toNat (List.drop (Int.toNat (5 : Int)) b))))]] [HObj.box Md.rw ty3 [SV.val (Go.Value.int IntKind.i64
  (IntKind.i64.wrap (b.getD (Int.toNat (4 : Int)) (0 : Int))))], HObj.box Md.rw (25 : Nat) [SV.val (Go.Value.slice Option.none (0 : Nat) (0 : Nat)), SV.val (Go.Value.slice
  Option.none (0 : Nat) (0 : Nat)), SV.val (Go.Value.slice Option.none (0 : Nat) (0 : Nat)), SV.val (Go.Value.slice Option.none (0 : Nat) (0 : Nat)), SV.val (Go.Value.int
  IntKind.i64 (0 : Int)), SV.val (Go.Value.int IntKind.i64 (IntKind.i64.wrap x.fst))], HObj.box Md.rw (28 : Nat) [SV.val (Go.Value.int IntKind.i64 (0 : Int))], HObj.box Md.rw (80 :
  Nat) [SV.data (K.int IntKind.u8).slice (List.take ((↑(List.take ((↑b.length : Int) - IntKind.i64.wrap ((↑b.length : Int) - (8 : Int))).toNat (List.drop (IntKind.i64.wrap
  ((↑b.length : Int) - (8 : Int))).toNat b)).length : Int) - (8 : Int)).toNat (List.drop (Int.toNat (8 : Int)) (List.take ((↑b.length : Int) - IntKind.i64.wrap ((↑b.length : Int) -
  (8 : Int))).toNat (List.drop (IntKind.i64.wrap ((↑b.length : Int) - (8 : Int))).toNat b))))], HObj.box Md.rw (80 : Nat) [SV.data (K.int IntKind.u8).slice (List.take ((↑(List.take
  ((↑b.length : Int) - (5 : Int)).toNat (List.drop (Int.toNat (5 : Int)) b)).length : Int) - (8 : Int)).toNat (List.drop (Int.toNat (8 : Int)) (List.take ((↑b.length : Int) - (5 :
  Int)).toNat (List.drop (Int.toNat (5 : Int)) b))))]] ∧ ∃ (I : Int × Int × Unit → Unit → Prop), ∃ (μ : Int × Int × Unit → Unit → Nat), I ((0 : Int), (7 : Int), ()) () ∧ ∀ (x_7 :
  Int × Int × Unit) (y : Unit), I x_7 y → ∀ (a : Bool), a = decide (x_7.snd.fst ≥ (0 : Int)) → Br a (∃ (h : (0 : Int) ≤ (8 : Int)), ∃ (h : (0 : Int) ≤ x_7.snd.fst ∧ x_7.snd.fst <
  (↑(List.take ((↑(List.take ((↑b.length : Int) - (5 : Int)).toNat (List.drop (Int.toNat (5 : Int)) b)).length : Int) - (8 : Int)).toNat (List.drop (Int.toNat (8 : Int)) (List.take
  ((↑b.length : Int) - (5 : Int)).toNat (List.drop (Int.toNat (5 : Int)) b)))).length : Int)), HIs [HObj.box Md.rw (3 : Nat) [SV.val (Go.Value.int IntKind.i64 (IntKind.i64.wrap
  (b.getD (Int.toNat (4 : Int)) (0 : Int))))], HObj.box Md.rw (25 : Nat) [SV.val (Go.Value.slice Option.none (0 : Nat) (0 : Nat)), SV.val (Go.Value.slice Option.none (0 : Nat) (0 :
  Nat)), SV.val (Go.Value.slice Option.none (0 : Nat) (0 : Nat)), SV.val (Go.Value.slice Option.none (0 : Nat) (0 : Nat)), SV.val (Go.Value.int IntKind.i64 (0 : Int)), SV.val
  (Go.Value.int IntKind.i64 (IntKind.i64.wrap x.fst))], HObj.box Md.rw (28 : Nat) [SV.val (Go.Value.int IntKind.i64 (0 : Int))], HObj.box Md.rw (80 : Nat) [SV.data (K.int
  IntKind.u8).slice (List.take ((↑(List.take ((↑b.length : Int) - IntKind.i64.wrap ((↑b.length : Int) - (8 : Int))).toNat (List.drop (IntKind.i64.wrap ((↑b.length : Int) - (8 :
  Int))).toNat b)).length : Int) - (8 : Int)).toNat (List.drop (Int.toNat (8 : Int)) (List.take ((↑b.length : Int) - IntKind.i64.wrap ((↑b.length : Int) - (8 : Int))).toNat
  (List.drop (IntKind.i64.wrap ((↑b.length : Int) - (8 : Int))).toNat b))))], HObj.box Md.rw (80 : Nat) [SV.data (K.int IntKind.u8).slice (List.take ((↑(List.take ((↑b.length : Int)
  - (5 : Int)).toNat (List.drop (Int.toNat (5 : Int)) b)).length : Int) - (8 : Int)).toNat (List.drop (Int.toNat (8 : Int)) (List.take ((↑b.length : Int) - (5 : Int)).toNat
  (List.drop (Int.toNat (5 : Int)) b))))]] [HObj.box Md.rw (3 : Nat) [SV.val (Go.Value.int IntKind.i64 (IntKind.i64.wrap (b.getD (Int.toNat (4 : Int)) (0 : Int))))], HObj.box Md.rw
  (25 : Nat) [SV.val (Go.Value.slice Option.none (0 : Nat) (0 : Nat)), SV.val (Go.Value.slice Option.none (0 : Nat) (0 : Nat)), SV.val (Go.Value.slice Option.none (0 : Nat) (0 :
  Nat)), SV.val (Go.Value.slice Option.none (0 : Nat) (0 : Nat)), SV.val (Go.Value.int IntKind.i64 (0 : Int)), SV.val (Go.Value.int IntKind.i64 (IntKind.i64.wrap x.fst))], HObj.box
  Md.rw (28 : Nat) [SV.val (Go.Value.int IntKind.i64 (0 : Int))], HObj.box Md.rw (80 : Nat) [SV.data (K.int IntKind.u8).slice (List.take ((↑(List.take ((↑b.length : Int) -
  IntKind.i64.wrap ((↑b.length : Int) - (8 : Int))).toNat (List.drop (IntKind.i64.wrap ((↑b.length : Int) - (8 : Int))).toNat b)).length : Int) - (8 : Int)).toNat (List.drop
  (Int.toNat (8 : Int)) (List.take ((↑b.length : Int) - IntKind.i64.wrap ((↑b.length : Int) - (8 : Int))).toNat (List.drop (IntKind.i64.wrap ((↑b.length : Int) - (8 : Int))).toNat
  b))))], HObj.box Md.rw (80 : Nat) [SV.data (K.int IntKind.u8).slice (List.take ((↑(List.take ((↑b.length : Int) - (5 : Int)).toNat (List.drop (Int.toNat (5 : Int)) b)).length :
  Int) - (8 : Int)).toNat (List.drop (Int.toNat (8 : Int)) (List.take ((↑b.length : Int) - (5 : Int)).toNat (List.drop (Int.toNat (5 : Int)) b))))]] ∧ I (Go.bits Go.BinOp.or
  IntKind.u64 (IntKind.u64.wrap (x_7.fst * (2 : Int) ^ Min.min (Int.toNat (8 : Int)) IntKind.u64.bits)) (IntKind.u64.wrap ((List.take ((↑(List.take ((↑b.length : Int) - (5 :
  Int)).toNat (List.drop (Int.toNat (5 : Int)) b)).length : Int) - (8 : Int)).toNat (List.drop (Int.toNat (8 : Int)) (List.take ((↑b.length : Int) - (5 : Int)).toNat (List.drop
  (Int.toNat (5 : Int)) b)))).getD x_7.snd.fst.toNat (0 : Int))), IntKind.i64.wrap (x_7.snd.fst - (1 : Int)), ()) () ∧ μ (Go.bits Go.BinOp.or IntKind.u64 (IntKind.u64.wrap (x_7.fst
  * (2 : Int) ^ Min.min (Int.toNat (8 : Int)) IntKind.u64.bits)) (IntKind.u64.wrap ((List.take ((↑(List.take ((↑b.length : Int) - (5 : Int)).toNat (List.drop (Int.toNat (5 : Int))
  b)).length : Int) - (8 : Int)).toNat (List.drop (Int.toNat (8 : Int)) (List.take ((↑b.length : Int) - (5 : Int)).toNat (List.drop (Int.toNat (5 : Int)) b)))).getD
  x_7.snd.fst.toNat (0 : Int))), IntKind.i64.wrap (x_7.snd.fst - (1 : Int)), ()) () < μ x_7 y) (∃ (h : (0 : Int) ≤ (8 : Int) ∧ (8 : Int) ≤ (↑(List.take ((↑(List.take ((↑b.length :
  Int) - (5 : Int)).toNat (List.drop (Int.toNat (5 : Int)) b)).length : Int) - (8 : Int)).toNat (List.drop (Int.toNat (8 : Int)) (List.take ((↑b.length : Int) - (5 : Int)).toNat
  (List.drop (Int.toNat (5 : Int)) b)))).length : Int) ∧ (↑(List.take ((↑(List.take ((↑b.length : Int) - (5 : Int)).toNat (List.drop (Int.toNat (5 : Int)) b)).length : Int) - (8 :
  Int)).toNat (List.drop (Int.toNat (8 : Int)) (List.take ((↑b.length : Int) - (5 : Int)).toNat (List.drop (Int.toNat (5 : Int)) b)))).length : Int) ≤ (↑(List.take ((↑(List.take
  ((↑b.length : Int) - (5 : Int)).toNat (List.drop (Int.toNat (5 : Int)) b)).length : Int) - (8 : Int)).toNat (List.drop (Int.toNat (8 : Int)) (List.take ((↑b.length : Int) - (5 :
  Int)).toNat (List.drop (Int.toNat (5 : Int)) b)))).length : Int)), ∃ (h : (0 : Int) ≤ m ∧ m ≤ m ∧ m * (↑(8 : Nat) : Int) ≤ (281474976710656 : Int)), ((0 : Nat) = (0 : Nat) ∧
  m.toNat = (List.replicate m.toNat (0 : Nat)).length) ∧ HIs [HObj.box Md.rw (3 : Nat) [SV.val (Go.Value.int IntKind.i64 (IntKind.i64.wrap (b.getD (Int.toNat (4 : Int)) (0 :
  Int))))], HObj.box Md.rw (25 : Nat) [SV.val (Go.Value.slice Option.none (0 : Nat) (0 : Nat)), SV.val (Go.Value.slice Option.none (0 : Nat) (0 : Nat)), SV.val (Go.Value.slice
  Option.none (0 : Nat) (0 : Nat)), SV.val (Go.Value.slice Option.none (0 : Nat) (0 : Nat)), SV.val (Go.Value.int IntKind.i64 (IntKind.i64.wrap x_7.fst)), SV.val (Go.Value.int
  IntKind.i64 (IntKind.i64.wrap x.fst))], HObj.box Md.rw (28 : Nat) [SV.val (Go.Value.int IntKind.i64 (0 : Int))], HObj.box Md.rw (80 : Nat) [SV.data (K.int IntKind.u8).slice
  (List.take ((↑(List.take ((↑b.length : Int) - IntKind.i64.wrap ((↑b.length : Int) - (8 : Int))).toNat (List.drop (IntKind.i64.wrap ((↑b.length : Int) - (8 : Int))).toNat
  b)).length : Int) - (8 : Int)).toNat (List.drop (Int.toNat (8 : Int)) (List.take ((↑b.length : Int) - IntKind.i64.wrap ((↑b.length : Int) - (8 : Int))).toNat (List.drop
  (IntKind.i64.wrap ((↑b.length : Int) - (8 : Int))).toNat b))))], HObj.box Md.rw (80 : Nat) [SV.junk], HObj.dead] [HObj.box Md.rw (3 : Nat) [SV.val (Go.Value.int IntKind.i64
  (IntKind.i64.wrap (b.getD (Int.toNat (4 : Int)) (0 : Int))))], HObj.box Md.rw (25 : Nat) [SV.val (Go.Value.slice Option.none (0 : Nat) (0 : Nat)), SV.val (Go.Value.slice
  Option.none (0 : Nat) (0 : Nat)), SV.val (Go.Value.slice Option.none (0 : Nat) (0 : Nat)), SV.val (Go.Value.slice Option.none (0 : Nat) (0 : Nat)), SV.val (Go.Value.int
  IntKind.i64 (IntKind.i64.wrap x_7.fst)), SV.val (Go.Value.int IntKind.i64 (IntKind.i64.wrap x.fst))], HObj.box Md.rw (28 : Nat) [SV.val (Go.Value.int IntKind.i64 (0 : Int))],
  HObj.box Md.rw (80 : Nat) [SV.data (K.int IntKind.u8).slice (List.take ((↑(List.take ((↑b.length : Int) - IntKind.i64.wrap ((↑b.length : Int) - (8 : Int))).toNat (List.drop
  (IntKind.i64.wrap ((↑b.length : Int) - (8 : Int))).toNat b)).length : Int) - (8 : Int)).toNat (List.drop (Int.toNat (8 : Int)) (List.take ((↑b.length : Int) - IntKind.i64.wrap
  ((↑b.length : Int) - (8 : Int))).toNat (List.drop (IntKind.i64.wrap ((↑b.length : Int) - (8 : Int))).toNat b))))], HObj.box Md.rw (80 : Nat) [SV.junk], HObj.dead] ∧ ∃ (I : List
  Nat × Int × List Int × Unit → Unit → Prop), ∃ (μ : List Nat × Int × List Int × Unit → Unit → Nat), I (List.replicate m.toNat (0 : Nat), (0 : Int), List.take ((↑(List.take
  ((↑(List.take ((↑b.length : Int) - (5 : Int)).toNat (List.drop (Int.toNat (5 : Int)) b)).length : Int) - (8 : Int)).toNat (List.drop (Int.toNat (8 : Int)) (List.take ((↑b.length :
  Int) - (5 : Int)).toNat (List.drop (Int.toNat (5 : Int)) b)))).length : Int) - (8 : Int)).toNat (List.drop (Int.toNat (8 : Int)) (List.take ((↑(List.take ((↑b.length : Int) - (5 :
  Int)).toNat (List.drop (Int.toNat (5 : Int)) b)).length : Int) - (8 : Int)).toNat (List.drop (Int.toNat (8 : Int)) (List.take ((↑b.length : Int) - (5 : Int)).toNat (List.drop
  (Int.toNat (5 : Int)) b))))), ()) () ∧ ∀ (x_10 : List Nat × Int × List Int × Unit) (y : Unit), I x_10 y → ∀ (a : Bool), a = decide (x_10.snd.fst < (↑m.toNat : Int)) → Br a (∀ (a :
  Bool), a = decide ((↑x_10.snd.snd.fst.length : Int) < (8 : Int)) → Br a False (HIs [HObj.box Md.rw (3 : Nat) [SV.val (Go.Value.int IntKind.i64 (IntKind.i64.wrap (b.getD (Int.toNat
  (4 : Int)) (0 : Int))))], HObj.box Md.rw (25 : Nat) [SV.val (Go.Value.slice Option.none (0 : Nat) (0 : Nat)), SV.val (Go.Value.slice Option.none (0 : Nat) (0 : Nat)), SV.val
  (Go.Value.slice Option.none (0 : Nat) (0 : Nat)), SV.val (Go.Value.slice Option.none (0 : Nat) (0 : Nat)), SV.val (Go.Value.int IntKind.i64 (IntKind.i64.wrap x_7.fst)), SV.val
  (Go.Value.int IntKind.i64 (IntKind.i64.wrap x.fst))], HObj.box Md.rw (28 : Nat) [SV.val (Go.Value.int IntKind.i64 (0 : Int))], HObj.box Md.rw (80 : Nat) [SV.data (K.int
  IntKind.u8).slice (List.take ((↑(List.take ((↑b.length : Int) - IntKind.i64.wrap ((↑b.length : Int) - (8 : Int))).toNat (List.drop (IntKind.i64.wrap ((↑b.length : Int) - (8 :
  Int))).toNat b)).length : Int) - (8 : Int)).toNat (List.drop (Int.toNat (8 : Int)) (List.take ((↑b.length : Int) - IntKind.i64.wrap ((↑b.length : Int) - (8 : Int))).toNat
  (List.drop (IntKind.i64.wrap ((↑b.length : Int) - (8 : Int))).toNat b))))], HObj.box Md.rw (80 : Nat) [SV.data (K.int IntKind.u8).slice x_10.snd.snd.fst], HObj.dead, HObj.row
  Md.rw (53 : Nat) (K.flt Go.FloatKind.f64) x_10.fst] [HObj.box Md.rw (3 : Nat) [SV.val (Go.Value.int IntKind.i64 (IntKind.i64.wrap (b.getD (Int.toNat (4 : Int)) (0 : Int))))],
  HObj.box Md.rw (25 : Nat) [SV.val (Go.Value.slice Option.none (0 : Nat) (0 : Nat)), SV.val (Go.Value.slice Option.none (0 : Nat) (0 : Nat)), SV.val (Go.Value.slice Option.none (0
  : Nat) (0 : Nat)), SV.val (Go.Value.slice Option.none (0 : Nat) (0 : Nat)), SV.val (Go.Value.int IntKind.i64 (IntKind.i64.wrap x_7.fst)), SV.val (Go.Value.int IntKind.i64
  (IntKind.i64.wrap x.fst))], HObj.box Md.rw (28 : Nat) [SV.val (Go.Value.int IntKind.i64 (0 : Int))], HObj.box Md.rw (80 : Nat) [SV.data (K.int IntKind.u8).slice (List.take
  ((↑(List.take ((↑b.length : Int) - IntKind.i64.wrap ((↑b.length : Int) - (8 : Int))).toNat (List.drop (IntKind.i64.wrap ((↑b.length : Int) - (8 : Int))).toNat b)).length : Int) -
  (8 : Int)).toNat (List.drop (Int.toNat (8 : Int)) (List.take ((↑b.length : Int) - IntKind.i64.wrap ((↑b.length : Int) - (8 : Int))).toNat (List.drop (IntKind.i64.wrap ((↑b.length
  : Int) - (8 : Int))).toNat b))))], HObj.box Md.rw (80 : Nat) [SV.data (K.int IntKind.u8).slice x_10.snd.snd.fst], HObj.dead, HObj.row Md.rw (53 : Nat) (K.flt Go.FloatKind.f64)
  x_10.fst] ∧ ∃ (I_1 : Int × Int × Unit → Unit → Prop), ∃ (μ_1 : Int × Int × Unit → Unit → Nat), I_1 ((0 : Int), (7 : Int), ()) () ∧ ∀ (x_14 : Int × Int × Unit) (y_1 : Unit), I_1
  x_14 y_1 → ∀ (a : Bool), a = decide (x_14.snd.fst ≥ (0 : Int)) → Br a (∃ (h : (0 : Int) ≤ (8 : Int)), ∃ (h : (0 : Int) ≤ x_14.snd.fst ∧ x_14.snd.fst < (↑x_10.snd.snd.fst.length :
  Int)), HIs [HObj.box Md.rw (3 : Nat) [SV.val (Go.Value.int IntKind.i64 (IntKind.i64.wrap (b.getD (Int.toNat (4 : Int)) (0 : Int))))], HObj.box Md.rw (25 : Nat) [SV.val
  (Go.Value.slice Option.none (0 : Nat) (0 : Nat)), SV.val (Go.Value.slice Option.none (0 : Nat) (0 : Nat)), SV.val (Go.Value.slice Option.none (0 : Nat) (0 : Nat)), SV.val
  (Go.Value.slice Option.none (0 : Nat) (0 : Nat)), SV.val (Go.Value.int IntKind.i64 (IntKind.i64.wrap x_7.fst)), SV.val (Go.Value.int IntKind.i64 (IntKind.i64.wrap x.fst))],
  HObj.box Md.rw (28 : Nat) [SV.val (Go.Value.int IntKind.i64 (0 : Int))], HObj.box Md.rw (80 : Nat) [SV.data (K.int IntKind.u8).slice (List.take ((↑(List.take ((↑b.length : Int) -
  IntKind.i64.wrap ((↑b.length : Int) - (8 : Int))).toNat (List.drop (IntKind.i64.wrap ((↑b.length : Int) - (8 : Int))).toNat b)).length : Int) - (8 : Int)).toNat (List.drop
  (Int.toNat (8 : Int)) (List.take ((↑b.length : Int) - IntKind.i64.wrap ((↑b.length : Int) - (8 : Int))).toNat (List.drop (IntKind.i64.wrap ((↑b.length : Int) - (8 : Int))).toNat
  b))))], HObj.box Md.rw (80 : Nat) [SV.data (K.int IntKind.u8).slice x_10.snd.snd.fst], HObj.dead, HObj.row Md.rw (53 : Nat) (K.flt Go.FloatKind.f64) x_10.fst] [HObj.box Md.rw (3 :
  Nat) [SV.val (Go.Value.int IntKind.i64 (IntKind.i64.wrap (b.getD (Int.toNat (4 : Int)) (0 : Int))))], HObj.box Md.rw (25 : Nat) [SV.val (Go.Value.slice Option.none (0 : Nat) (0 :
  Nat)), SV.val (Go.Value.slice Option.none (0 : Nat) (0 : Nat)), SV.val (Go.Value.slice Option.none (0 : Nat) (0 : Nat)), SV.val (Go.Value.slice Option.none (0 : Nat) (0 : Nat)),
  SV.val (Go.Value.int IntKind.i64 (IntKind.i64.wrap x_7.fst)), SV.val (Go.Value.int IntKind.i64 (IntKind.i64.wrap x.fst))], HObj.box Md.rw (28 : Nat) [SV.val (Go.Value.int
  IntKind.i64 (0 : Int))], HObj.box Md.rw (80 : Nat) [SV.data (K.int IntKind.u8).slice (List.take ((↑(List.take ((↑b.length : Int) - IntKind.i64.wrap ((↑b.length : Int) - (8 :
  Int))).toNat (List.drop (IntKind.i64.wrap ((↑b.length : Int) - (8 : Int))).toNat b)).length : Int) - (8 : Int)).toNat (List.drop (Int.toNat (8 : Int)) (List.take ((↑b.length :
  Int) - IntKind.i64.wrap ((↑b.length : Int) - (8 : Int))).toNat (List.drop (IntKind.i64.wrap ((↑b.length : Int) - (8 : Int))).toNat b))))], HObj.box Md.rw (80 : Nat) [SV.data
  (K.int IntKind.u8).slice x_10.snd.snd.fst], HObj.dead, HObj.row Md.rw (53 : Nat) (K.flt Go.FloatKind.f64) x_10.fst] ∧ I_1 (Go.bits Go.BinOp.or IntKind.u64 (IntKind.u64.wrap
  (x_14.fst * (2 : Int) ^ Min.min (Int.toNat (8 : Int)) IntKind.u64.bits)) (IntKind.u64.wrap (x_10.snd.snd.fst.getD x_14.snd.fst.toNat (0 : Int))), IntKind.i64.wrap (x_14.snd.fst -
  (1 : Int)), ()) () ∧ μ_1 (Go.bits Go.BinOp.or IntKind.u64 (IntKind.u64.wrap (x_14.fst * (2 : Int) ^ Min.min (Int.toNat (8 : Int)) IntKind.u64.bits)) (IntKind.u64.wrap
  (x_10.snd.snd.fst.getD x_14.snd.fst.toNat (0 : Int))), IntKind.i64.wrap (x_14.snd.fst - (1 : Int)), ()) () < μ_1 x_14 y_1) (∃ (h : (0 : Int) ≤ (8 : Int) ∧ (8 : Int) ≤
  (↑x_10.snd.snd.fst.length : Int) ∧ (↑x_10.snd.snd.fst.length : Int) ≤ (↑x_10.snd.snd.fst.length : Int)), ∃ (h : True), ∃ (h : (0 : Int) ≤ x_10.snd.fst ∧ x_10.snd.fst <
  (↑x_10.fst.length : Int)), ((0 : Nat) = (0 : Nat) ∧ x_10.fst.length = (x_10.fst.set ((0 : Nat) + x_10.snd.fst.toNat) (fromR x_14.fst).fst).length) ∧ HIs [HObj.box Md.rw (3 : Nat)
  [SV.val (Go.Value.int IntKind.i64 (IntKind.i64.wrap (b.getD (Int.toNat (4 : Int)) (0 : Int))))], HObj.box Md.rw (25 : Nat) [SV.val (Go.Value.slice Option.none (0 : Nat) (0 :
  Nat)), SV.val (Go.Value.slice Option.none (0 : Nat) (0 : Nat)), SV.val (Go.Value.slice Option.none (0 : Nat) (0 : Nat)), SV.val (Go.Value.slice Option.none (0 : Nat) (0 : Nat)),
  SV.val (Go.Value.int IntKind.i64 (IntKind.i64.wrap x_7.fst)), SV.val (Go.Value.int IntKind.i64 (IntKind.i64.wrap x.fst))], HObj.box Md.rw (28 : Nat) [SV.val (Go.Value.int
  IntKind.i64 (0 : Int))], HObj.box Md.rw (80 : Nat) [SV.data (K.int IntKind.u8).slice (List.take ((↑(List.take ((↑b.length : Int) - IntKind.i64.wrap ((↑b.length : Int) - (8 :
  Int))).toNat (List.drop (IntKind.i64.wrap ((↑b.length : Int) - (8 : Int))).toNat b)).length : Int) - (8 : Int)).toNat (List.drop (Int.toNat (8 : Int)) (List.take ((↑b.length :
  Int) - IntKind.i64.wrap ((↑b.length : Int) - (8 : Int))).toNat (List.drop (IntKind.i64.wrap ((↑b.length : Int) - (8 : Int))).toNat b))))], HObj.box Md.rw (80 : Nat) [SV.junk],
  HObj.dead] [HObj.box Md.rw (3 : Nat) [SV.val (Go.Value.int IntKind.i64 (IntKind.i64.wrap (b.getD (Int.toNat (4 : Int)) (0 : Int))))], HObj.box Md.rw (25 : Nat) [SV.val
  (Go.Value.slice Option.none (0 : Nat) (0 : Nat)), SV.val (Go.Value.slice Option.none (0 : Nat) (0 : Nat)), SV.val (Go.Value.slice Option.none (0 : Nat) (0 : Nat)), SV.val
  (Go.Value.slice Option.none (0 : Nat) (0 : Nat)), SV.val (Go.Value.int IntKind.i64 (IntKind.i64.wrap x_7.fst)), SV.val (Go.Value.int IntKind.i64 (IntKind.i64.wrap x.fst))],
  HObj.box Md.rw (28 : Nat) [SV.val (Go.Value.int IntKind.i64 (0 : Int))], HObj.box Md.rw (80 : Nat) [SV.data (K.int IntKind.u8).slice (List.take ((↑(List.take ((↑b.length : Int) -
  IntKind.i64.wrap ((↑b.length : Int) - (8 : Int))).toNat (List.drop (IntKind.i64.wrap ((↑b.length : Int) - (8 : Int))).toNat b)).length : Int) - (8 : Int)).toNat (List.drop
  (Int.toNat (8 : Int)) (List.take ((↑b.length : Int) - IntKind.i64.wrap ((↑b.length : Int) - (8 : Int))).toNat (List.drop (IntKind.i64.wrap ((↑b.length : Int) - (8 : Int))).toNat
  b))))], HObj.box Md.rw (80 : Nat) [SV.junk], HObj.dead] ∧ I (x_10.fst.set ((0 : Nat) + x_10.snd.fst.toNat) (fromR x_14.fst).fst, IntKind.i64.wrap (x_10.snd.fst + (1 : Int)),
  List.take ((↑x_10.snd.snd.fst.length : Int) - (8 : Int)).toNat (List.drop (Int.toNat (8 : Int)) x_10.snd.snd.fst), ()) () ∧ μ (x_10.fst.set ((0 : Nat) + x_10.snd.fst.toNat) (fromR
  x_14.fst).fst, IntKind.i64.wrap (x_10.snd.fst + (1 : Int)), List.take ((↑x_10.snd.snd.fst.length : Int) - (8 : Int)).toNat (List.drop (Int.toNat (8 : Int)) x_10.snd.snd.fst), ())
  () < μ x_10 y))) (∃ (h : (0 : Int) ≤ m ∧ m ≤ m ∧ m * (↑(8 : Nat) : Int) ≤ (281474976710656 : Int)), ((0 : Nat) = (0 : Nat) ∧ m.toNat = (List.replicate m.toNat (0 : Int)).length) ∧
  HIs [HObj.box Md.rw (3 : Nat) [SV.val (Go.Value.int IntKind.i64 (IntKind.i64.wrap (b.getD (Int.toNat (4 : Int)) (0 : Int))))], HObj.box Md.rw (25 : Nat) [SV.osl (6 : Nat) (0 :
  Nat) x_10.fst.length, SV.val (Go.Value.slice Option.none (0 : Nat) (0 : Nat)), SV.val (Go.Value.slice Option.none (0 : Nat) (0 : Nat)), SV.val (Go.Value.slice Option.none (0 :
  Nat) (0 : Nat)), SV.val (Go.Value.int IntKind.i64 (IntKind.i64.wrap x_7.fst)), SV.val (Go.Value.int IntKind.i64 (IntKind.i64.wrap x.fst))], HObj.box Md.rw (28 : Nat) [SV.val
  (Go.Value.int IntKind.i64 (0 : Int))], HObj.box Md.rw (80 : Nat) [SV.data (K.int IntKind.u8).slice (List.take ((↑(List.take ((↑b.length : Int) - IntKind.i64.wrap ((↑b.length :
  Int) - (8 : Int))).toNat (List.drop (IntKind.i64.wrap ((↑b.length : Int) - (8 : Int))).toNat b)).length : Int) - (8 : Int)).toNat (List.drop (Int.toNat (8 : Int)) (List.take
  ((↑b.length : Int) - IntKind.i64.wrap ((↑b.length : Int) - (8 : Int))).toNat (List.drop (IntKind.i64.wrap ((↑b.length : Int) - (8 : Int))).toNat b))))], HObj.box Md.rw (80 : Nat)
  [SV.junk], HObj.dead, HObj.row Md.rw (53 : Nat) (K.flt Go.FloatKind.f64) x_10.fst, HObj.dead] [HObj.box Md.rw (3 : Nat) [SV.val (Go.Value.int IntKind.i64 (IntKind.i64.wrap (b.getD
  (Int.toNat (4 : Int)) (0 : Int))))], HObj.box Md.rw (25 : Nat) [SV.osl (6 : Nat) (0 : Nat) x_10.fst.length, SV.val (Go.Value.slice Option.none (0 : Nat) (0 : Nat)), SV.val
  (Go.Value.slice Option.none (0 : Nat) (0 : Nat)), SV.val (Go.Value.slice Option.none (0 : Nat) (0 : Nat)), SV.val (Go.Value.int IntKind.i64 (IntKind.i64.wrap x_7.fst)), SV.val
  (Go.Value.int IntKind.i64 (IntKind.i64.wrap x.fst))], HObj.box Md.rw (28 : Nat) [SV.val (Go.Value.int IntKind.i64 (0 : Int))], HObj.box Md.rw (80 : Nat) [SV.data (K.int
  IntKind.u8).slice (List.take ((↑(List.take ((↑b.length : Int) - IntKind.i64.wrap ((↑b.length : Int) - (8 : Int))).toNat (List.drop (IntKind.i64.wrap ((↑b.length : Int) - (8 :
  Int))).toNat b)).length : Int) - (8 : Int)).toNat (List.drop (Int.toNat (8 : Int)) (List.take ((↑b.length : Int) - IntKind.i64.wrap ((↑b.length : Int) - (8 : Int))).toNat
  (List.drop (IntKind.i64.wrap ((↑b.length : Int) - (8 : Int))).toNat b))))], HObj.box Md.rw (80 : Nat) [SV.junk], HObj.dead, HObj.row Md.rw (53 : Nat) (K.flt Go.FloatKind.f64)
  x_10.fst, HObj.dead] ∧ ∃ (I : List Int × Int × List Int × Unit → Unit → Prop), ∃ (μ : List Int × Int × List Int × Unit → Unit → Nat), I (List.replicate m.toNat (0 : Int), (0 :
  Int), x_10.snd.snd.fst, ()) () ∧ ∀ (x_13 : List Int × Int × List Int × Unit) (y : Unit), I x_13 y → ∀ (a : Bool), a = decide (x_13.snd.fst < (↑m.toNat : Int)) → Br a (∀ (a :
  Bool), a = decide ((↑x_13.snd.snd.fst.length : Int) < (8 : Int)) → Br a False (HIs [HObj.box Md.rw (3 : Nat) [SV.val (Go.Value.int IntKind.i64 (IntKind.i64.wrap (b.getD (Int.toNat
  (4 : Int)) (0 : Int))))], HObj.box Md.rw (25 : Nat) [SV.osl (6 : Nat) (0 : Nat) x_10.fst.length, SV.val (Go.Value.slice Option.none (0 : Nat) (0 : Nat)), SV.val (Go.Value.slice
  Option.none (0 : Nat) (0 : Nat)), SV.val (Go.Value.slice Option.none (0 : Nat) (0 : Nat)), SV.val (Go.Value.int IntKind.i64 (IntKind.i64.wrap x_7.fst)), SV.val (Go.Value.int
  IntKind.i64 (IntKind.i64.wrap x.fst))], HObj.box Md.rw (28 : Nat) [SV.val (Go.Value.int IntKind.i64 (0 : Int))], HObj.box Md.rw (80 : Nat) [SV.data (K.int IntKind.u8).slice
  (List.take ((↑(List.take ((↑b.length : Int) - IntKind.i64.wrap ((↑b.length : Int) - (8 : Int))).toNat (List.drop (IntKind.i64.wrap ((↑b.length : Int) - (8 : Int))).toNat
  b)).length : Int) - (8 : Int)).toNat (List.drop (Int.toNat (8 : Int)) (List.take ((↑b.length : Int) - IntKind.i64.wrap ((↑b.length : Int) - (8 : Int))).toNat (List.drop
  (IntKind.i64.wrap ((↑b.length : Int) - (8 : Int))).toNat b))))], HObj.box Md.rw (80 : Nat) [SV.data (K.int IntKind.u8).slice x_13.snd.snd.fst], HObj.dead, HObj.row Md.rw (53 :
  Nat) (K.flt Go.FloatKind.f64) x_10.fst, HObj.dead, HObj.row Md.rw (2 : Nat) (K.int IntKind.i64) x_13.fst] [HObj.box Md.rw (3 : Nat) [SV.val (Go.Value.int IntKind.i64
  (IntKind.i64.wrap (b.getD (Int.toNat (4 : Int)) (0 : Int))))], HObj.box Md.rw (25 : Nat) [SV.osl (6 : Nat) (0 : Nat) x_10.fst.length, SV.val (Go.Value.slice Option.none (0 : Nat)
  (0 : Nat)), SV.val (Go.Value.slice Option.none (0 : Nat) (0 : Nat)), SV.val (Go.Value.slice Option.none (0 : Nat) (0 : Nat)), SV.val (Go.Value.int IntKind.i64 (IntKind.i64.wrap
  x_7.fst)), SV.val (Go.Value.int IntKind.i64 (IntKind.i64.wrap x.fst))], HObj.box Md.rw (28 : Nat) [SV.val (Go.Value.int IntKind.i64 (0 : Int))], HObj.box Md.rw (80 : Nat) [SV.data
  (K.int IntKind.u8).slice (List.take ((↑(List.take ((↑b.length : Int) - IntKind.i64.wrap ((↑b.length : Int) - (8 : Int))).toNat (List.drop (IntKind.i64.wrap ((↑b.length : Int) - (8
  : Int))).toNat b)).length : Int) - (8 : Int)).toNat (List.drop (Int.toNat (8 : Int)) (List.take ((↑b.length : Int) - IntKind.i64.wrap ((↑b.length : Int) - (8 : Int))).toNat
  (List.drop (IntKind.i64.wrap ((↑b.length : Int) - (8 : Int))).toNat b))))], HObj.box Md.rw (80 : Nat) [SV.data (K.int IntKind.u8).slice x_13.snd.snd.fst], HObj.dead, HObj.row
  Md.rw (53 : Nat) (K.flt Go.FloatKind.f64) x_10.fst, HObj.dead, HObj.row Md.rw (2 : Nat) (K.int IntKind.i64) x_13.fst] ∧ ∃ (I_1 : Int × Int × Unit → Unit → Prop), ∃ (μ_1 : Int ×
  Int × Unit → Unit → Nat), I_1 ((0 : Int), (7 : Int), ()) () ∧ ∀ (x_17 : Int × Int × Unit) (y_1 : Unit), I_1 x_17 y_1 → ∀ (a : Bool), a = decide (x_17.snd.fst ≥ (0 : Int)) → Br a
  (∃ (h : (0 : Int) ≤ (8 : Int)), ∃ (h : (0 : Int) ≤ x_17.snd.fst ∧ x_17.snd.fst < (↑x_13.snd.snd.fst.length : Int)), HIs [HObj.box Md.rw (3 : Nat) [SV.val (Go.Value.int IntKind.i64
  (IntKind.i64.wrap (b.getD (Int.toNat (4 : Int)) (0 : Int))))], HObj.box Md.rw (25 : Nat) [SV.osl (6 : Nat) (0 : Nat) x_10.fst.length, SV.val (Go.Value.slice Option.none (0 : Nat)
  (0 : Nat)), SV.val (Go.Value.slice Option.none (0 : Nat) (0 : Nat)), SV.val (Go.Value.slice Option.none (0 : Nat) (0 : Nat)), SV.val (Go.Value.int IntKind.i64 (IntKind.i64.wrap
  x_7.fst)), SV.val (Go.Value.int IntKind.i64 (IntKind.i64.wrap x.fst))], HObj.box Md.rw (28 : Nat) [SV.val (Go.Value.int IntKind.i64 (0 : Int))], HObj.box Md.rw (80 : Nat) [SV.data
  (K.int IntKind.u8).slice (List.take ((↑(List.take ((↑b.length : Int) - IntKind.i64.wrap ((↑b.length : Int) - (8 : Int))).toNat (List.drop (IntKind.i64.wrap ((↑b.length : Int) - (8
  : Int))).toNat b)).length : Int) - (8 : Int)).toNat (List.drop (Int.toNat (8 : Int)) (List.take ((↑b.length : Int) - IntKind.i64.wrap ((↑b.length : Int) - (8 : Int))).toNat
  (List.drop (IntKind.i64.wrap ((↑b.length : Int) - (8 : Int))).toNat b))))], HObj.box Md.rw (80 : Nat) [SV.data (K.int IntKind.u8).slice x_13.snd.snd.fst], HObj.dead, HObj.row
  Md.rw (53 : Nat) (K.flt Go.FloatKind.f64) x_10.fst, HObj.dead, HObj.row Md.rw (2 : Nat) (K.int IntKind.i64) x_13.fst] [HObj.box Md.rw (3 : Nat) [SV.val (Go.Value.int IntKind.i64
  (IntKind.i64.wrap (b.getD (Int.toNat (4 : Int)) (0 : Int))))], HObj.box Md.rw (25 : Nat) [SV.osl (6 : Nat) (0 : Nat) x_10.fst.length, SV.val (Go.Value.slice Option.none (0 : Nat)
  (0 : Nat)), SV.val (Go.Value.slice Option.none (0 : Nat) (0 : Nat)), SV.val (Go.Value.slice Option.none (0 : Nat) (0 : Nat)), SV.val (Go.Value.int IntKind.i64 (IntKind.i64.wrap
  x_7.fst)), SV.val (Go.Value.int IntKind.i64 (IntKind.i64.wrap x.fst))], HObj.box Md.rw (28 : Nat) [SV.val (Go.Value.int IntKind.i64 (0 : Int))], HObj.box Md.rw (80 : Nat) [SV.data
  (K.int IntKind.u8).slice (List.take ((↑(List.take ((↑b.length : Int) - IntKind.i64.wrap ((↑b.length : Int) - (8 : Int))).toNat (List.drop (IntKind.i64.wrap ((↑b.length : Int) - (8
  : Int))).toNat b)).length : Int) - (8 : Int)).toNat (List.drop (Int.toNat (8 : Int)) (List.take ((↑b.length : Int) - IntKind.i64.wrap ((↑b.length : Int) - (8 : Int))).toNat
  (List.drop (IntKind.i64.wrap ((↑b.length : Int) - (8 : Int))).toNat b))))], HObj.box Md.rw (80 : Nat) [SV.data (K.int IntKind.u8).slice x_13.snd.snd.fst], HObj.dead, HObj.row
  Md.rw (53 : Nat) (K.flt Go.FloatKind.f64) x_10.fst, HObj.dead, HObj.row Md.rw (2 : Nat) (K.int IntKind.i64) x_13.fst] ∧ I_1 (Go.bits Go.BinOp.or IntKind.u64 (IntKind.u64.wrap
  (x_17.fst * (2 : Int) ^ Min.min (Int.toNat (8 : Int)) IntKind.u64.bits)) (IntKind.u64.wrap (x_13.snd.snd.fst.getD x_17.snd.fst.toNat (0 : Int))), IntKind.i64.wrap (x_17.snd.fst -
  (1 : Int)), ()) () ∧ μ_1 (Go.bits Go.BinOp.or IntKind.u64 (IntKind.u64.wrap (x_17.fst * (2 : Int) ^ Min.min (Int.toNat (8 : Int)) IntKind.u64.bits)) (IntKind.u64.wrap
  (x_13.snd.snd.fst.getD x_17.snd.fst.toNat (0 : Int))), IntKind.i64.wrap (x_17.snd.fst - (1 : Int)), ()) () < μ_1 x_17 y_1) (∃ (h : (0 : Int) ≤ (8 : Int) ∧ (8 : Int) ≤
  (↑x_13.snd.snd.fst.length : Int) ∧ (↑x_13.snd.snd.fst.length : Int) ≤ (↑x_13.snd.snd.fst.length : Int)), ∃ (h : (0 : Int) ≤ x_13.snd.fst ∧ x_13.snd.fst < (↑x_13.fst.length :
  Int)), ((0 : Nat) = (0 : Nat) ∧ x_13.fst.length = (x_13.fst.set ((0 : Nat) + x_13.snd.fst.toNat) (IntKind.i64.wrap x_17.fst)).length) ∧ HIs [HObj.box Md.rw (3 : Nat) [SV.val
  (Go.Value.int IntKind.i64 (IntKind.i64.wrap (b.getD (Int.toNat (4 : Int)) (0 : Int))))], HObj.box Md.rw (25 : Nat) [SV.osl (6 : Nat) (0 : Nat) x_10.fst.length, SV.val
  (Go.Value.slice Option.none (0 : Nat) (0 : Nat)), SV.val (Go.Value.slice Option.none (0 : Nat) (0 : Nat)), SV.val (Go.Value.slice Option.none (0 : Nat) (0 : Nat)), SV.val
  (Go.Value.int IntKind.i64 (IntKind.i64.wrap x_7.fst)), SV.val (Go.Value.int IntKind.i64 (IntKind.i64.wrap x.fst))], HObj.box Md.rw (28 : Nat) [SV.val (Go.Value.int IntKind.i64 (0
  : Int))], HObj.box Md.rw (80 : Nat) [SV.data (K.int IntKind.u8).slice (List.take ((↑(List.take ((↑b.length : Int) - IntKind.i64.wrap ((↑b.length : Int) - (8 : Int))).toNat
  (List.drop (IntKind.i64.wrap ((↑b.length : Int) - (8 : Int))).toNat b)).length : Int) - (8 : Int)).toNat (List.drop (Int.toNat (8 : Int)) (List.take ((↑b.length : Int) -
  IntKind.i64.wrap ((↑b.length : Int) - (8 : Int))).toNat (List.drop (IntKind.i64.wrap ((↑b.length : Int) - (8 : Int))).toNat b))))], HObj.box Md.rw (80 : Nat) [SV.junk], HObj.dead,
  HObj.row Md.rw (53 : Nat) (K.flt Go.FloatKind.f64) x_10.fst, HObj.dead] [HObj.box Md.rw (3 : Nat) [SV.val (Go.Value.int IntKind.i64 (IntKind.i64.wrap (b.getD (Int.toNat (4 : Int))
  (0 : Int))))], HObj.box Md.rw (25 : Nat) [SV.osl (6 : Nat) (0 : Nat) x_10.fst.length, SV.val (Go.Value.slice Option.none (0 : Nat) (0 : Nat)), SV.val (Go.Value.slice Option.none
  (0 : Nat) (0 : Nat)), SV.val (Go.Value.slice Option.none (0 : Nat) (0 : Nat)), SV.val (Go.Value.int IntKind.i64 (IntKind.i64.wrap x_7.fst)), SV.val (Go.Value.int IntKind.i64
  (IntKind.i64.wrap x.fst))], HObj.box Md.rw (28 : Nat) [SV.val (Go.Value.int IntKind.i64 (0 : Int))], HObj.box Md.rw (80 : Nat) [SV.data (K.int IntKind.u8).slice (List.take
  ((↑(List.take ((↑b.length : Int) - IntKind.i64.wrap ((↑b.length : Int) - (8 : Int))).toNat (List.drop (IntKind.i64.wrap ((↑b.length : Int) - (8 : Int))).toNat b)).length : Int) -
  (8 : Int)).toNat (List.drop (Int.toNat (8 : Int)) (List.take ((↑b.length : Int) - IntKind.i64.wrap ((↑b.length : Int) - (8 : Int))).toNat (List.drop (IntKind.i64.wrap ((↑b.length
  : Int) - (8 : Int))).toNat b))))], HObj.box Md.rw (80 : Nat) [SV.junk], HObj.dead, HObj.row Md.rw (53 : Nat) (K.flt Go.FloatKind.f64) x_10.fst, HObj.dead] ∧ I (x_13.fst.set ((0 :
  Nat) + x_13.snd.fst.toNat) (IntKind.i64.wrap x_17.fst), IntKind.i64.wrap (x_13.snd.fst + (1 : Int)), List.take ((↑x_13.snd.snd.fst.length : Int) - (8 : Int)).toNat (List.drop
  (Int.toNat (8 : Int)) x_13.snd.snd.fst), ()) () ∧ μ (x_13.fst.set ((0 : Nat) + x_13.snd.fst.toNat) (IntKind.i64.wrap x_17.fst), IntKind.i64.wrap (x_13.snd.fst + (1 : Int)),
  List.take ((↑x_13.snd.snd.fst.length : Int) - (8 : Int)).toNat (List.drop (Int.toNat (8 : Int)) x_13.snd.snd.fst), ()) () < μ x_13 y))) (∃ (h : (0 : Int) ≤ m ∧ m ≤ m ∧ m * (↑(8 :
  Nat) : Int) ≤ (281474976710656 : Int)), ((0 : Nat) = (0 : Nat) ∧ m.toNat = (List.replicate m.toNat (0 : Int)).length) ∧ HIs [HObj.box Md.rw (3 : Nat) [SV.val (Go.Value.int
  IntKind.i64 (IntKind.i64.wrap (b.getD (Int.toNat (4 : Int)) (0 : Int))))], HObj.box Md.rw (25 : Nat) [SV.osl (6 : Nat) (0 : Nat) x_10.fst.length, SV.osl (8 : Nat) (0 : Nat)
  x_13.fst.length, SV.val (Go.Value.slice Option.none (0 : Nat) (0 : Nat)), SV.val (Go.Value.slice Option.none (0 : Nat) (0 : Nat)), SV.val (Go.Value.int IntKind.i64
  (IntKind.i64.wrap x_7.fst)), SV.val (Go.Value.int IntKind.i64 (IntKind.i64.wrap x.fst))], HObj.box Md.rw (28 : Nat) [SV.val (Go.Value.int IntKind.i64 (0 : Int))], HObj.box Md.rw
  (80 : Nat) [SV.data (K.int IntKind.u8).slice (List.take ((↑(List.take ((↑b.length : Int) - IntKind.i64.wrap ((↑b.length : Int) - (8 : Int))).toNat (List.drop (IntKind.i64.wrap
  ((↑b.length : Int) - (8 : Int))).toNat b)).length : Int) - (8 : Int)).toNat (List.drop (Int.toNat (8 : Int)) (List.take ((↑b.length : Int) - IntKind.i64.wrap ((↑b.length : Int) -
  (8 : Int))).toNat (List.drop (IntKind.i64.wrap ((↑b.length : Int) - (8 : Int))).toNat b))))], HObj.box Md.rw (80 : Nat) [SV.junk], HObj.dead, HObj.row Md.rw (53 : Nat) (K.flt
  Go.FloatKind.f64) x_10.fst, HObj.dead, HObj.row Md.rw (2 : Nat) (K.int IntKind.i64) x_13.fst, HObj.dead] [HObj.box Md.rw (3 : Nat) [SV.val (Go.Value.int IntKind.i64
  (IntKind.i64.wrap (b.getD (Int.toNat (4 : Int)) (0 : Int))))], HObj.box Md.rw (25 : Nat) [SV.osl (6 : Nat) (0 : Nat) x_10.fst.length, SV.osl (8 : Nat) (0 : Nat) x_13.fst.length,
  SV.val (Go.Value.slice Option.none (0 : Nat) (0 : Nat)), SV.val (Go.Value.slice Option.none (0 : Nat) (0 : Nat)), SV.val (Go.Value.int IntKind.i64 (IntKind.i64.wrap x_7.fst)),
  SV.val (Go.Value.int IntKind.i64 (IntKind.i64.wrap x.fst))], HObj.box Md.rw (28 : Nat) [SV.val (Go.Value.int IntKind.i64 (0 : Int))], HObj.box Md.rw (80 : Nat) [SV.data (K.int
  IntKind.u8).slice (List.take ((↑(List.take ((↑b.length : Int) - IntKind.i64.wrap ((↑b.length : Int) - (8 : Int))).toNat (List.drop (IntKind.i64.wrap ((↑b.length : Int) - (8 :
  Int))).toNat b)).length : Int) - (8 : Int)).toNat (List.drop (Int.toNat (8 : Int)) (List.take ((↑b.length : Int) - IntKind.i64.wrap ((↑b.length : Int) - (8 : Int))).toNat
  (List.drop (IntKind.i64.wrap ((↑b.length : Int) - (8 : Int))).toNat b))))], HObj.box Md.rw (80 : Nat) [SV.junk], HObj.dead, HObj.row Md.rw (53 : Nat) (K.flt Go.FloatKind.f64)
  x_10.fst, HObj.dead, HObj.row Md.rw (2 : Nat) (K.int IntKind.i64) x_13.fst, HObj.dead] ∧ ∃ (I : List Int × Int × List Int × Unit → Unit → Prop), ∃ (μ : List Int × Int × List Int ×
  Unit → Unit → Nat), I (List.replicate m.toNat (0 : Int), (0 : Int), x_13.snd.snd.fst, ()) () ∧ ∀ (x_16 : List Int × Int × List Int × Unit) (y : Unit), I x_16 y → ∀ (a : Bool), a =
  decide (x_16.snd.fst < (↑m.toNat : Int)) → Br a (∀ (a : Bool), a = decide ((↑x_16.snd.snd.fst.length : Int) < (8 : Int)) → Br a False (HIs [HObj.box Md.rw (3 : Nat) [SV.val
  (Go.Value.int IntKind.i64 (IntKind.i64.wrap (b.getD (Int.toNat (4 : Int)) (0 : Int))))], HObj.box Md.rw (25 : Nat) [SV.osl (6 : Nat) (0 : Nat) x_10.fst.length, SV.osl (8 : Nat) (0
  : Nat) x_13.fst.length, SV.val (Go.Value.slice Option.none (0 : Nat) (0 : Nat)), SV.val (Go.Value.slice Option.none (0 : Nat) (0 : Nat)), SV.val (Go.Value.int IntKind.i64
  (IntKind.i64.wrap x_7.fst)), SV.val (Go.Value.int IntKind.i64 (IntKind.i64.wrap x.fst))], HObj.box Md.rw (28 : Nat) [SV.val (Go.Value.int IntKind.i64 (0 : Int))], HObj.box Md.rw
  (80 : Nat) [SV.data (K.int IntKind.u8).slice (List.take ((↑(List.take ((↑b.length : Int) - IntKind.i64.wrap ((↑b.length : Int) - (8 : Int))).toNat (List.drop (IntKind.i64.wrap
  ((↑b.length : Int) - (8 : Int))).toNat b)).length : Int) - (8 : Int)).toNat (List.drop (Int.toNat (8 : Int)) (List.take ((↑b.length : Int) - IntKind.i64.wrap ((↑b.length : Int) -
  (8 : Int))).toNat (List.drop (IntKind.i64.wrap ((↑b.length : Int) - (8 : Int))).toNat b))))], HObj.box Md.rw (80 : Nat) [SV.data (K.int IntKind.u8).slice x_16.snd.snd.fst],
  HObj.dead, HObj.row Md.rw (53 : Nat) (K.flt Go.FloatKind.f64) x_10.fst, HObj.dead, HObj.row Md.rw (2 : Nat) (K.int IntKind.i64) x_13.fst, HObj.dead, HObj.row Md.rw (2 : Nat)
  (K.int IntKind.i64) x_16.fst] [HObj.box Md.rw (3 : Nat) [SV.val (Go.Value.int IntKind.i64 (IntKind.i64.wrap (b.getD (Int.toNat (4 : Int)) (0 : Int))))], HObj.box Md.rw (25 : Nat)
  [SV.osl (6 : Nat) (0 : Nat) x_10.fst.length, SV.osl (8 : Nat) (0 : Nat) x_13.fst.length, SV.val (Go.Value.slice Option.none (0 : Nat) (0 : Nat)), SV.val (Go.Value.slice
  Option.none (0 : Nat) (0 : Nat)), SV.val (Go.Value.int IntKind.i64 (IntKind.i64.wrap x_7.fst)), SV.val (Go.Value.int IntKind.i64 (IntKind.i64.wrap x.fst))], HObj.box Md.rw (28 :
  Nat) [SV.val (Go.Value.int IntKind.i64 (0 : Int))], HObj.box Md.rw (80 : Nat) [SV.data (K.int IntKind.u8).slice (List.take ((↑(List.take ((↑b.length : Int) - IntKind.i64.wrap
  ((↑b.length : Int) - (8 : Int))).toNat (List.drop (IntKind.i64.wrap ((↑b.length : Int) - (8 : Int))).toNat b)).length : Int) - (8 : Int)).toNat (List.drop (Int.toNat (8 : Int))
  (List.take ((↑b.length : Int) - IntKind.i64.wrap ((↑b.length : Int) - (8 : Int))).toNat (List.drop (IntKind.i64.wrap ((↑b.length : Int) - (8 : Int))).toNat b))))], HObj.box Md.rw
  (80 : Nat) [SV.data (K.int IntKind.u8).slice x_16.snd.snd.fst], HObj.dead, HObj.row Md.rw (53 : Nat) (K.flt Go.FloatKind.f64) x_10.fst, HObj.dead, HObj.row Md.rw (2 : Nat) (K.int
  IntKind.i64) x_13.fst, HObj.dead, HObj.row Md.rw (2 : Nat) (K.int IntKind.i64) x_16.fst] ∧ ∃ (I_1 : Int × Int × Unit → Unit → Prop), ∃ (μ_1 : Int × Int × Unit → Unit → Nat), I_1
  ((0 : Int), (7 : Int), ()) () ∧ ∀ (x_20 : Int × Int × Unit) (y_1 : Unit), I_1 x_20 y_1 → ∀ (a : Bool), a = decide (x_20.snd.fst ≥ (0 : Int)) → Br a (∃ (h : (0 : Int) ≤ (8 : Int)),
  ∃ (h : (0 : Int) ≤ x_20.snd.fst ∧ x_20.snd.fst < (↑x_16.snd.snd.fst.length : Int)), HIs [HObj.box Md.rw (3 : Nat) [SV.val (Go.Value.int IntKind.i64 (IntKind.i64.wrap (b.getD
  (Int.toNat (4 : Int)) (0 : Int))))], HObj.box Md.rw (25 : Nat) [SV.osl (6 : Nat) (0 : Nat) x_10.fst.length, SV.osl (8 : Nat) (0 : Nat) x_13.fst.length, SV.val (Go.Value.slice
  Option.none (0 : Nat) (0 : Nat)), SV.val (Go.Value.slice Option.none (0 : Nat) (0 : Nat)), SV.val (Go.Value.int IntKind.i64 (IntKind.i64.wrap x_7.fst)), SV.val (Go.Value.int
  IntKind.i64 (IntKind.i64.wrap x.fst))], HObj.box Md.rw (28 : Nat) [SV.val (Go.Value.int IntKind.i64 (0 : Int))], HObj.box Md.rw (80 : Nat) [SV.data (K.int IntKind.u8).slice
  (List.take ((↑(List.take ((↑b.length : Int) - IntKind.i64.wrap ((↑b.length : Int) - (8 : Int))).toNat (List.drop (IntKind.i64.wrap ((↑b.length : Int) - (8 : Int))).toNat
  b)).length : Int) - (8 : Int)).toNat (List.drop (Int.toNat (8 : Int)) (List.take ((↑b.length : Int) - IntKind.i64.wrap ((↑b.length : Int) - (8 : Int))).toNat (List.drop
  (IntKind.i64.wrap ((↑b.length : Int) - (8 : Int))).toNat b))))], HObj.box Md.rw (80 : Nat) [SV.data (K.int IntKind.u8).slice x_16.snd.snd.fst], HObj.dead, HObj.row Md.rw (53 :
  Nat) (K.flt Go.FloatKind.f64) x_10.fst, HObj.dead, HObj.row Md.rw (2 : Nat) (K.int IntKind.i64) x_13.fst, HObj.dead, HObj.row Md.rw (2 : Nat) (K.int IntKind.i64) x_16.fst]
  [HObj.box Md.rw (3 : Nat) [SV.val (Go.Value.int IntKind.i64 (IntKind.i64.wrap (b.getD (Int.toNat (4 : Int)) (0 : Int))))], HObj.box Md.rw (25 : Nat) [SV.osl (6 : Nat) (0 : Nat)
  x_10.fst.length, SV.osl (8 : Nat) (0 : Nat) x_13.fst.length, SV.val (Go.Value.slice Option.none (0 : Nat) (0 : Nat)), SV.val (Go.Value.slice Option.none (0 : Nat) (0 : Nat)),
  SV.val (Go.Value.int IntKind.i64 (IntKind.i64.wrap x_7.fst)), SV.val (Go.Value.int IntKind.i64 (IntKind.i64.wrap x.fst))], HObj.box Md.rw (28 : Nat) [SV.val (Go.Value.int
  IntKind.i64 (0 : Int))], HObj.box Md.rw (80 : Nat) [SV.data (K.int IntKind.u8).slice (List.take ((↑(List.take ((↑b.length : Int) - IntKind.i64.wrap ((↑b.length : Int) - (8 :
  Int))).toNat (List.drop (IntKind.i64.wrap ((↑b.length : Int) - (8 : Int))).toNat b)).length : Int) - (8 : Int)).toNat (List.drop (Int.toNat (8 : Int)) (List.take ((↑b.length :
  Int) - IntKind.i64.wrap ((↑b.length : Int) - (8 : Int))).toNat (List.drop (IntKind.i64.wrap ((↑b.length : Int) - (8 : Int))).toNat b))))], HObj.box Md.rw (80 : Nat) [SV.data
  (K.int IntKind.u8).slice x_16.snd.snd.fst], HObj.dead, HObj.row Md.rw (53 : Nat) (K.flt Go.FloatKind.f64) x_10.fst, HObj.dead, HObj.row Md.rw (2 : Nat) (K.int IntKind.i64)
  x_13.fst, HObj.dead, HObj.row Md.rw (2 : Nat) (K.int IntKind.i64) x_16.fst] ∧ I_1 (Go.bits Go.BinOp.or IntKind.u64 (IntKind.u64.wrap (x_20.fst * (2 : Int) ^ Min.min (Int.toNat (8
  : Int)) IntKind.u64.bits)) (IntKind.u64.wrap (x_16.snd.snd.fst.getD x_20.snd.fst.toNat (0 : Int))), IntKind.i64.wrap (x_20.snd.fst - (1 : Int)), ()) () ∧ μ_1 (Go.bits Go.BinOp.or
  IntKind.u64 (IntKind.u64.wrap (x_20.fst * (2 : Int) ^ Min.min (Int.toNat (8 : Int)) IntKind.u64.bits)) (IntKind.u64.wrap (x_16.snd.snd.fst.getD x_20.snd.fst.toNat (0 : Int))),
  IntKind.i64.wrap (x_20.snd.fst - (1 : Int)), ()) () < μ_1 x_20 y_1) (∃ (h : (0 : Int) ≤ (8 : Int) ∧ (8 : Int) ≤ (↑x_16.snd.snd.fst.length : Int) ∧ (↑x_16.snd.snd.fst.length : Int)
  ≤ (↑x_16.snd.snd.fst.length : Int)), ∃ (h : (0 : Int) ≤ x_16.snd.fst ∧ x_16.snd.fst < (↑x_16.fst.length : Int)), ((0 : Nat) = (0 : Nat) ∧ x_16.fst.length = (x_16.fst.set ((0 :
  Nat) + x_16.snd.fst.toNat) (IntKind.i64.wrap x_20.fst)).length) ∧ HIs [HObj.box Md.rw (3 : Nat) [SV.val (Go.Value.int IntKind.i64 (IntKind.i64.wrap (b.getD (Int.toNat (4 : Int))
  (0 : Int))))], HObj.box Md.rw (25 : Nat) [SV.osl (6 : Nat) (0 : Nat) x_10.fst.length, SV.osl (8 : Nat) (0 : Nat) x_13.fst.length, SV.val (Go.Value.slice Option.none (0 : Nat) (0 :
  Nat)), SV.val (Go.Value.slice Option.none (0 : Nat) (0 : Nat)), SV.val (Go.Value.int IntKind.i64 (IntKind.i64.wrap x_7.fst)), SV.val (Go.Value.int IntKind.i64 (IntKind.i64.wrap
  x.fst))], HObj.box Md.rw (28 : Nat) [SV.val (Go.Value.int IntKind.i64 (0 : Int))], HObj.box Md.rw (80 : Nat) [SV.data (K.int IntKind.u8).slice (List.take ((↑(List.take ((↑b.length
  : Int) - IntKind.i64.wrap ((↑b.length : Int) - (8 : Int))).toNat (List.drop (IntKind.i64.wrap ((↑b.length : Int) - (8 : Int))).toNat b)).length : Int) - (8 : Int)).toNat
  (List.drop (Int.toNat (8 : Int)) (List.take ((↑b.length : Int) - IntKind.i64.wrap ((↑b.length : Int) - (8 : Int))).toNat (List.drop (IntKind.i64.wrap ((↑b.length : Int) - (8 :
  Int))).toNat b))))], HObj.box Md.rw (80 : Nat) [SV.junk], HObj.dead, HObj.row Md.rw (53 : Nat) (K.flt Go.FloatKind.f64) x_10.fst, HObj.dead, HObj.row Md.rw (2 : Nat) (K.int
  IntKind.i64) x_13.fst, HObj.dead] [HObj.box Md.rw (3 : Nat) [SV.val (Go.Value.int IntKind.i64 (IntKind.i64.wrap (b.getD (Int.toNat (4 : Int)) (0 : Int))))], HObj.box Md.rw (25 :
  Nat) [SV.osl (6 : Nat) (0 : Nat) x_10.fst.length, SV.osl (8 : Nat) (0 : Nat) x_13.fst.length, SV.val (Go.Value.slice Option.none (0 : Nat) (0 : Nat)), SV.val (Go.Value.slice
  Option.none (0 : Nat) (0 : Nat)), SV.val (Go.Value.int IntKind.i64 (IntKind.i64.wrap x_7.fst)), SV.val (Go.Value.int IntKind.i64 (IntKind.i64.wrap x.fst))], HObj.box Md.rw (28 :
  Nat) [SV.val (Go.Value.int IntKind.i64 (0 : Int))], HObj.box Md.rw (80 : Nat) [SV.data (K.int IntKind.u8).slice (List.take ((↑(List.take ((↑b.length : Int) - IntKind.i64.wrap
  ((↑b.length : Int) - (8 : Int))).toNat (List.drop (IntKind.i64.wrap ((↑b.length : Int) - (8 : Int))).toNat b)).length : Int) - (8 : Int)).toNat (List.drop (Int.toNat (8 : Int))
  (List.take ((↑b.length : Int) - IntKind.i64.wrap ((↑b.length : Int) - (8 : Int))).toNat (List.drop (IntKind.i64.wrap ((↑b.length : Int) - (8 : Int))).toNat b))))], HObj.box Md.rw
  (80 : Nat) [SV.junk], HObj.dead, HObj.row Md.rw (53 : Nat) (K.flt Go.FloatKind.f64) x_10.fst, HObj.dead, HObj.row Md.rw (2 : Nat) (K.int IntKind.i64) x_13.fst, HObj.dead] ∧ I
  (x_16.fst.set ((0 : Nat) + x_16.snd.fst.toNat) (IntKind.i64.wrap x_20.fst), IntKind.i64.wrap (x_16.snd.fst + (1 : Int)), List.take ((↑x_16.snd.snd.fst.length : Int) - (8 :
  Int)).toNat (List.drop (Int.toNat (8 : Int)) x_16.snd.snd.fst), ()) () ∧ μ (x_16.fst.set ((0 : Nat) + x_16.snd.fst.toNat) (IntKind.i64.wrap x_20.fst), IntKind.i64.wrap
  (x_16.snd.fst + (1 : Int)), List.take ((↑x_16.snd.snd.fst.length : Int) - (8 : Int)).toNat (List.drop (Int.toNat (8 : Int)) x_16.snd.snd.fst), ()) () < μ x_16 y))) (∃ (h : (0 :
  Int) ≤ IntKind.i64.wrap ((2 : Int) * m) ∧ IntKind.i64.wrap ((2 : Int) * m) ≤ IntKind.i64.wrap ((2 : Int) * m) ∧ IntKind.i64.wrap ((2 : Int) * m) * (↑(8 : Nat) : Int) ≤
  (281474976710656 : Int)), ((0 : Nat) = (0 : Nat) ∧ (IntKind.i64.wrap ((2 : Int) * m)).toNat = (List.replicate (IntKind.i64.wrap ((2 : Int) * m)).toNat (0 : Nat)).length) ∧ HIs
  [HObj.box Md.rw (3 : Nat) [SV.val (Go.Value.int IntKind.i64 (IntKind.i64.wrap (b.getD (Int.toNat (4 : Int)) (0 : Int))))], HObj.box Md.rw (25 : Nat) [SV.osl (6 : Nat) (0 : Nat)
  x_10.fst.length, SV.osl (8 : Nat) (0 : Nat) x_13.fst.length, SV.osl (10 : Nat) (0 : Nat) x_16.fst.length, SV.val (Go.Value.slice Option.none (0 : Nat) (0 : Nat)), SV.val
  (Go.Value.int IntKind.i64 (IntKind.i64.wrap x_7.fst)), SV.val (Go.Value.int IntKind.i64 (IntKind.i64.wrap x.fst))], HObj.box Md.rw (28 : Nat) [SV.val (Go.Value.int IntKind.i64 (0
  : Int))], HObj.box Md.rw (80 : Nat) [SV.data (K.int IntKind.u8).slice (List.take ((↑(List.take ((↑b.length : Int) - IntKind.i64.wrap ((↑b.length : Int) - (8 : Int))).toNat
  (List.drop (IntKind.i64.wrap ((↑b.length : Int) - (8 : Int))).toNat b)).length : Int) - (8 : Int)).toNat (List.drop (Int.toNat (8 : Int)) (List.take ((↑b.length : Int) -
  IntKind.i64.wrap ((↑b.length : Int) - (8 : Int))).toNat (List.drop (IntKind.i64.wrap ((↑b.length : Int) - (8 : Int))).toNat b))))], HObj.box Md.rw (80 : Nat) [SV.junk], HObj.dead,
  HObj.row Md.rw (53 : Nat) (K.flt Go.FloatKind.f64) x_10.fst, HObj.dead, HObj.row Md.rw (2 : Nat) (K.int IntKind.i64) x_13.fst, HObj.dead, HObj.row Md.rw (2 : Nat) (K.int
  IntKind.i64) x_16.fst, HObj.dead] [HObj.box Md.rw (3 : Nat) [SV.val (Go.Value.int IntKind.i64 (IntKind.i64.wrap (b.getD (Int.toNat (4 : Int)) (0 : Int))))], HObj.box Md.rw (25 :
  Nat) [SV.osl (6 : Nat) (0 : Nat) x_10.fst.length, SV.osl (8 : Nat) (0 : Nat) x_13.fst.length, SV.osl (10 : Nat) (0 : Nat) x_16.fst.length, SV.val (Go.Value.slice Option.none (0 :
  Nat) (0 : Nat)), SV.val (Go.Value.int IntKind.i64 (IntKind.i64.wrap x_7.fst)), SV.val (Go.Value.int IntKind.i64 (IntKind.i64.wrap x.fst))], HObj.box Md.rw (28 : Nat) [SV.val
  (Go.Value.int IntKind.i64 (0 : Int))], HObj.box Md.rw (80 : Nat) [SV.data (K.int IntKind.u8).slice (List.take ((↑(List.take ((↑b.length : Int) - IntKind.i64.wrap ((↑b.length :
  Int) - (8 : Int))).toNat (List.drop (IntKind.i64.wrap ((↑b.length : Int) - (8 : Int))).toNat b)).length : Int) - (8 : Int)).toNat (List.drop (Int.toNat (8 : Int)) (List.take
  ((↑b.length : Int) - IntKind.i64.wrap ((↑b.length : Int) - (8 : Int))).toNat (List.drop (IntKind.i64.wrap ((↑b.length : Int) - (8 : Int))).toNat b))))], HObj.box Md.rw (80 : Nat)
  [SV.junk], HObj.dead, HObj.row Md.rw (53 : Nat) (K.flt Go.FloatKind.f64) x_10.fst, HObj.dead, HObj.row Md.rw (2 : Nat) (K.int IntKind.i64) x_13.fst, HObj.dead, HObj.row Md.rw (2 :
  Nat) (K.int IntKind.i64) x_16.fst, HObj.dead] ∧ ∃ (I : List Nat × Int × List Int × Unit → Unit → Prop), ∃ (μ : List Nat × Int × List Int × Unit → Unit → Nat), I (List.replicate
  (IntKind.i64.wrap ((2 : Int) * m)).toNat (0 : Nat), (0 : Int), x_16.snd.snd.fst, ()) () ∧ ∀ (x_19 : List Nat × Int × List Int × Unit) (y : Unit), I x_19 y → ∀ (a : Bool), a =
  decide (x_19.snd.fst < (↑(IntKind.i64.wrap ((2 : Int) * m)).toNat : Int)) → Br a (∀ (a : Bool), a = decide ((↑x_19.snd.snd.fst.length : Int) < (8 : Int)) → Br a False (HIs
  [HObj.box Md.rw (3 : Nat) [SV.val (Go.Value.int IntKind.i64 (IntKind.i64.wrap (b.getD (Int.toNat (4 : Int)) (0 : Int))))], HObj.box Md.rw (25 : Nat) [SV.osl (6 : Nat) (0 : Nat)
  x_10.fst.length, SV.osl (8 : Nat) (0 : Nat) x_13.fst.length, SV.osl (10 : Nat) (0 : Nat) x_16.fst.length, SV.val (Go.Value.slice Option.none (0 : Nat) (0 : Nat)), SV.val
  (Go.Value.int IntKind.i64 (IntKind.i64.wrap x_7.fst)), SV.val (Go.Value.int IntKind.i64 (IntKind.i64.wrap x.fst))], HObj.box Md.rw (28 : Nat) [SV.val (Go.Value.int IntKind.i64 (0
  : Int))], HObj.box Md.rw (80 : Nat) [SV.data (K.int IntKind.u8).slice (List.take ((↑(List.take ((↑b.length : Int) - IntKind.i64.wrap ((↑b.length : Int) - (8 : Int))).toNat
  (List.drop (IntKind.i64.wrap ((↑b.length : Int) - (8 : Int))).toNat b)).length : Int) - (8 : Int)).toNat (List.drop (Int.toNat (8 : Int)) (List.take ((↑b.length : Int) -
  IntKind.i64.wrap ((↑b.length : Int) - (8 : Int))).toNat (List.drop (IntKind.i64.wrap ((↑b.length : Int) - (8 : Int))).toNat b))))], HObj.box Md.rw (80 : Nat) [SV.data (K.int
  IntKind.u8).slice x_19.snd.snd.fst], HObj.dead, HObj.row Md.rw (53 : Nat) (K.flt Go.FloatKind.f64) x_10.fst, HObj.dead, HObj.row Md.rw (2 : Nat) (K.int IntKind.i64) x_13.fst,
  HObj.dead, HObj.row Md.rw (2 : Nat) (K.int IntKind.i64) x_16.fst, HObj.dead, HObj.row Md.rw (53 : Nat) (K.flt Go.FloatKind.f64) x_19.fst] [HObj.box Md.rw (3 : Nat) [SV.val
  (Go.Value.int IntKind.i64 (IntKind.i64.wrap (b.getD (Int.toNat (4 : Int)) (0 : Int))))], HObj.box Md.rw (25 : Nat) [SV.osl (6 : Nat) (0 : Nat) x_10.fst.length, SV.osl (8 : Nat) (0
  : Nat) x_13.fst.length, SV.osl (10 : Nat) (0 : Nat) x_16.fst.length, SV.val (Go.Value.slice Option.none (0 : Nat) (0 : Nat)), SV.val (Go.Value.int IntKind.i64 (IntKind.i64.wrap
  x_7.fst)), SV.val (Go.Value.int IntKind.i64 (IntKind.i64.wrap x.fst))], HObj.box Md.rw (28 : Nat) [SV.val (Go.Value.int IntKind.i64 (0 : Int))], HObj.box Md.rw (80 : Nat) [SV.data
  (K.int IntKind.u8).slice (List.take ((↑(List.take ((↑b.length : Int) - IntKind.i64.wrap ((↑b.length : Int) - (8 : Int))).toNat (List.drop (IntKind.i64.wrap ((↑b.length : Int) - (8
  : Int))).toNat b)).length : Int) - (8 : Int)).toNat (List.drop (Int.toNat (8 : Int)) (List.take ((↑b.length : Int) - IntKind.i64.wrap ((↑b.length : Int) - (8 : Int))).toNat
  (List.drop (IntKind.i64.wrap ((↑b.length : Int) - (8 : Int))).toNat b))))], HObj.box Md.rw (80 : Nat) [SV.data (K.int IntKind.u8).slice x_19.snd.snd.fst], HObj.dead, HObj.row
  Md.rw (53 : Nat) (K.flt Go.FloatKind.f64) x_10.fst, HObj.dead, HObj.row Md.rw (2 : Nat) (K.int IntKind.i64) x_13.fst, HObj.dead, HObj.row Md.rw (2 : Nat) (K.int IntKind.i64)
  x_16.fst, HObj.dead, HObj.row Md.rw (53 : Nat) (K.flt Go.FloatKind.f64) x_19.fst] ∧ ∃ (I_1 : Int × Int × Unit → Unit → Prop), ∃ (μ_1 : Int × Int × Unit → Unit → Nat), I_1 ((0 :
  Int), (7 : Int), ()) () ∧ ∀ (x_23 : Int × Int × Unit) (y_1 : Unit), I_1 x_23 y_1 → ∀ (a : Bool), a = decide (x_23.snd.fst ≥ (0 : Int)) → Br a (∃ (h : (0 : Int) ≤ (8 : Int)), ∃ (h
  : (0 : Int) ≤ x_23.snd.fst ∧ x_23.snd.fst < (↑x_19.snd.snd.fst.length : Int)), HIs [HObj.box Md.rw (3 : Nat) [SV.val (Go.Value.int IntKind.i64 (IntKind.i64.wrap (b.getD (Int.toNat
  (4 : Int)) (0 : Int))))], HObj.box Md.rw (25 : Nat) [SV.osl (6 : Nat) (0 : Nat) x_10.fst.length, SV.osl (8 : Nat) (0 : Nat) x_13.fst.length, SV.osl (10 : Nat) (0 : Nat)
  x_16.fst.length, SV.val (Go.Value.slice Option.none (0 : Nat) (0 : Nat)), SV.val (Go.Value.int IntKind.i64 (IntKind.i64.wrap x_7.fst)), SV.val (Go.Value.int IntKind.i64
  (IntKind.i64.wrap x.fst))], HObj.box Md.rw (28 : Nat) [SV.val (Go.Value.int IntKind.i64 (0 : Int))], HObj.box Md.rw (80 : Nat) [SV.data (K.int IntKind.u8).slice (List.take
  ((↑(List.take ((↑b.length : Int) - IntKind.i64.wrap ((↑b.length : Int) - (8 : Int))).toNat (List.drop (IntKind.i64.wrap ((↑b.length : Int) - (8 : Int))).toNat b)).length : Int) -
  (8 : Int)).toNat (List.drop (Int.toNat (8 : Int)) (List.take ((↑b.length : Int) - IntKind.i64.wrap ((↑b.length : Int) - (8 : Int))).toNat (List.drop (IntKind.i64.wrap ((↑b.length
  : Int) - (8 : Int))).toNat b))))], HObj.box Md.rw (80 : Nat) [SV.data (K.int IntKind.u8).slice x_19.snd.snd.fst], HObj.dead, HObj.row Md.rw (53 : Nat) (K.flt Go.FloatKind.f64)
  x_10.fst, HObj.dead, HObj.row Md.rw (2 : Nat) (K.int IntKind.i64) x_13.fst, HObj.dead, HObj.row Md.rw (2 : Nat) (K.int IntKind.i64) x_16.fst, HObj.dead, HObj.row Md.rw (53 : Nat)
  (K.flt Go.FloatKind.f64) x_19.fst] [HObj.box Md.rw (3 : Nat) [SV.val (Go.Value.int IntKind.i64 (IntKind.i64.wrap (b.getD (Int.toNat (4 : Int)) (0 : Int))))], HObj.box Md.rw (25 :
  Nat) [SV.osl (6 : Nat) (0 : Nat) x_10.fst.length, SV.osl (8 : Nat) (0 : Nat) x_13.fst.length, SV.osl (10 : Nat) (0 : Nat) x_16.fst.length, SV.val (Go.Value.slice Option.none (0 :
  Nat) (0 : Nat)), SV.val (Go.Value.int IntKind.i64 (IntKind.i64.wrap x_7.fst)), SV.val (Go.Value.int IntKind.i64 (IntKind.i64.wrap x.fst))], HObj.box Md.rw (28 : Nat) [SV.val
  (Go.Value.int IntKind.i64 (0 : Int))], HObj.box Md.rw (80 : Nat) [SV.data (K.int IntKind.u8).slice (List.take ((↑(List.take ((↑b.length : Int) - IntKind.i64.wrap ((↑b.length :
  Int) - (8 : Int))).toNat (List.drop (IntKind.i64.wrap ((↑b.length : Int) - (8 : Int))).toNat b)).length : Int) - (8 : Int)).toNat (List.drop (Int.toNat (8 : Int)) (List.take
  ((↑b.length : Int) - IntKind.i64.wrap ((↑b.length : Int) - (8 : Int))).toNat (List.drop (IntKind.i64.wrap ((↑b.length : Int) - (8 : Int))).toNat b))))], HObj.box Md.rw (80 : Nat)
  [SV.data (K.int IntKind.u8).slice x_19.snd.snd.fst], HObj.dead, HObj.row Md.rw (53 : Nat) (K.flt Go.FloatKind.f64) x_10.fst, HObj.dead, HObj.row Md.rw (2 : Nat) (K.int
  IntKind.i64) x_13.fst, HObj.dead, HObj.row Md.rw (2 : Nat) (K.int IntKind.i64) x_16.fst, HObj.dead, HObj.row Md.rw (53 : Nat) (K.flt Go.FloatKind.f64) x_19.fst] ∧ I_1 (Go.bits
  Go.BinOp.or IntKind.u64 (IntKind.u64.wrap (x_23.fst * (2 : Int) ^ Min.min (Int.toNat (8 : Int)) IntKind.u64.bits)) (IntKind.u64.wrap (x_19.snd.snd.fst.getD x_23.snd.fst.toNat (0 :
  Int))), IntKind.i64.wrap (x_23.snd.fst - (1 : Int)), ()) () ∧ μ_1 (Go.bits Go.BinOp.or IntKind.u64 (IntKind.u64.wrap (x_23.fst * (2 : Int) ^ Min.min (Int.toNat (8 : Int))
  IntKind.u64.bits)) (IntKind.u64.wrap (x_19.snd.snd.fst.getD x_23.snd.fst.toNat (0 : Int))), IntKind.i64.wrap (x_23.snd.fst - (1 : Int)), ()) () < μ_1 x_23 y_1) (∃ (h : (0 : Int) ≤
  (8 : Int) ∧ (8 : Int) ≤ (↑x_19.snd.snd.fst.length : Int) ∧ (↑x_19.snd.snd.fst.length : Int) ≤ (↑x_19.snd.snd.fst.length : Int)), ∃ (h : True), ∃ (h : (0 : Int) ≤ x_19.snd.fst ∧
  x_19.snd.fst < (↑x_19.fst.length : Int)), ((0 : Nat) = (0 : Nat) ∧ x_19.fst.length = (x_19.fst.set ((0 : Nat) + x_19.snd.fst.toNat) (fromR x_23.fst).fst).length) ∧ HIs [HObj.box
  Md.rw (3 : Nat) [SV.val (Go.Value.int IntKind.i64 (IntKind.i64.wrap (b.getD (Int.toNat (4 : Int)) (0 : Int))))], HObj.box Md.rw (25 : Nat) [SV.osl (6 : Nat) (0 : Nat)
  x_10.fst.length, SV.osl (8 : Nat) (0 : Nat) x_13.fst.length, SV.osl (10 : Nat) (0 : Nat) x_16.fst.length, SV.val (Go.Value.slice Option.none (0 : Nat) (0 : Nat)), SV.val
  (Go.Value.int IntKind.i64 (IntKind.i64.wrap x_7.fst)), SV.val (Go.Value.int IntKind.i64 (IntKind.i64.wrap x.fst))], HObj.box Md.rw (28 : Nat) [SV.val (Go.Value.int IntKind.i64 (0
  : Int))], HObj.box Md.rw (80 : Nat) [SV.data (K.int IntKind.u8).slice (List.take ((↑(List.take ((↑b.length : Int) - IntKind.i64.wrap ((↑b.length : Int) - (8 : Int))).toNat
  (List.drop (IntKind.i64.wrap ((↑b.length : Int) - (8 : Int))).toNat b)).length : Int) - (8 : Int)).toNat (List.drop (Int.toNat (8 : Int)) (List.take ((↑b.length : Int) -
  IntKind.i64.wrap ((↑b.length : Int) - (8 : Int))).toNat (List.drop (IntKind.i64.wrap ((↑b.length : Int) - (8 : Int))).toNat b))))], HObj.box Md.rw (80 : Nat) [SV.junk], HObj.dead,
  HObj.row Md.rw (53 : Nat) (K.flt Go.FloatKind.f64) x_10.fst, HObj.dead, HObj.row Md.rw (2 : Nat) (K.int IntKind.i64) x_13.fst, HObj.dead, HObj.row Md.rw (2 : Nat) (K.int
  IntKind.i64) x_16.fst, HObj.dead] [HObj.box Md.rw (3 : Nat) [SV.val (Go.Value.int IntKind.i64 (IntKind.i64.wrap (b.getD (Int.toNat (4 : Int)) (0 : Int))))], HObj.box Md.rw (25 :
  Nat) [SV.osl (6 : Nat) (0 : Nat) x_10.fst.length, SV.osl (8 : Nat) (0 : Nat) x_13.fst.length, SV.osl (10 : Nat) (0 : Nat) x_16.fst.length, SV.val (Go.Value.slice Option.none (0 :
  Nat) (0 : Nat)), SV.val (Go.Value.int IntKind.i64 (IntKind.i64.wrap x_7.fst)), SV.val (Go.Value.int IntKind.i64 (IntKind.i64.wrap x.fst))], HObj.box Md.rw (28 : Nat) [SV.val
  (Go.Value.int IntKind.i64 (0 : Int))], HObj.box Md.rw (80 : Nat) [SV.data (K.int IntKind.u8).slice (List.take ((↑(List.take ((↑b.length : Int) - IntKind.i64.wrap ((↑b.length :
  Int) - (8 : Int))).toNat (List.drop (IntKind.i64.wrap ((↑b.length : Int) - (8 : Int))).toNat b)).length : Int) - (8 : Int)).toNat (List.drop (Int.toNat (8 : Int)) (List.take
  ((↑b.length : Int) - IntKind.i64.wrap ((↑b.length : Int) - (8 : Int))).toNat (List.drop (IntKind.i64.wrap ((↑b.length : Int) - (8 : Int))).toNat b))))], HObj.box Md.rw (80 : Nat)
  [SV.junk], HObj.dead, HObj.row Md.rw (53 : Nat) (K.flt Go.FloatKind.f64) x_10.fst, HObj.dead, HObj.row Md.rw (2 : Nat) (K.int IntKind.i64) x_13.fst, HObj.dead, HObj.row Md.rw (2 :
  Nat) (K.int IntKind.i64) x_16.fst, HObj.dead] ∧ I (x_19.fst.set ((0 : Nat) + x_19.snd.fst.toNat) (fromR x_23.fst).fst, IntKind.i64.wrap (x_19.snd.fst + (1 : Int)), List.take
  ((↑x_19.snd.snd.fst.length : Int) - (8 : Int)).toNat (List.drop (Int.toNat (8 : Int)) x_19.snd.snd.fst), ()) () ∧ μ (x_19.fst.set ((0 : Nat) + x_19.snd.fst.toNat) (fromR
  x_23.fst).fst, IntKind.i64.wrap (x_19.snd.fst + (1 : Int)), List.take ((↑x_19.snd.snd.fst.length : Int) - (8 : Int)).toNat (List.drop (Int.toNat (8 : Int)) x_19.snd.snd.fst), ())
  () < μ x_19 y))) (∃ (h : WCheck (IntKind.i64.wrap (b.getD (Int.toNat (4 : Int)) (0 : Int))) (List.take x_10.fst.length (List.drop (0 : Nat) x_10.fst), List.take x_13.fst.length
  (List.drop (0 : Nat) x_13.fst), List.take x_16.fst.length (List.drop (0 : Nat) x_16.fst), List.take x_19.fst.length (List.drop (0 : Nat) x_19.fst), IntKind.i64.wrap x_7.fst,
  IntKind.i64.wrap x.fst)), ∀ (a : Bool), a = ((checkR (IntKind.i64.wrap (b.getD (Int.toNat (4 : Int)) (0 : Int))) (List.take x_10.fst.length (List.drop (0 : Nat) x_10.fst),
  List.take x_13.fst.length (List.drop (0 : Nat) x_13.fst), List.take x_16.fst.length (List.drop (0 : Nat) x_16.fst), List.take x_19.fst.length (List.drop (0 : Nat) x_19.fst),
  IntKind.i64.wrap x_7.fst, IntKind.i64.wrap x.fst)).snd.fst == (0 : Int)) → Br a ((post (IntKind.i64.wrap (b.getD (Int.toNat (4 : Int)) (0 : Int)), (List.take x_10.fst.length
  (List.drop (0 : Nat) x_10.fst), List.take x_13.fst.length (List.drop (0 : Nat) x_13.fst), List.take x_16.fst.length (List.drop (0 : Nat) x_16.fst), List.take x_19.fst.length
  (List.drop (0 : Nat) x_19.fst), IntKind.i64.wrap x_7.fst, IntKind.i64.wrap x.fst), (0 : Int), ()) ∧ post (IntKind.i64.wrap (b.getD (Int.toNat (4 : Int)) (0 : Int)), (List.take
  x_10.fst.length (List.drop (0 : Nat) x_10.fst), List.take x_13.fst.length (List.drop (0 : Nat) x_13.fst), List.take x_16.fst.length (List.drop (0 : Nat) x_16.fst), List.take
  x_19.fst.length (List.drop (0 : Nat) x_19.fst), IntKind.i64.wrap x_7.fst, IntKind.i64.wrap x.fst), (0 : Int), ())) ∧ post (IntKind.i64.wrap (b.getD (Int.toNat (4 : Int)) (0 :
  Int)), (List.take x_10.fst.length (List.drop (0 : Nat) x_10.fst), List.take x_13.fst.length (List.drop (0 : Nat) x_13.fst), List.take x_16.fst.length (List.drop (0 : Nat)
  x_16.fst), List.take x_19.fst.length (List.drop (0 : Nat) x_19.fst), IntKind.i64.wrap x_7.fst, IntKind.i64.wrap x.fst), (0 : Int), ())) (post ((0 : Int), ([], [], [], [], (0 :
  Int), (0 : Int)), (checkR (IntKind.i64.wrap (b.getD (Int.toNat (4 : Int)) (0 : Int))) (List.take x_10.fst.length (List.drop (0 : Nat) x_10.fst), List.take x_13.fst.length
  (List.drop (0 : Nat) x_13.fst), List.take x_16.fst.length (List.drop (0 : Nat) x_16.fst), List.take x_19.fst.length (List.drop (0 : Nat) x_19.fst), IntKind.i64.wrap x_7.fst,
  IntKind.i64.wrap x.fst)).snd.fst, ()) ∧ post ((0 : Int), ([], [], [], [], (0 : Int), (0 : Int)), (checkR (IntKind.i64.wrap (b.getD (Int.toNat (4 : Int)) (0 : Int))) (List.take
  x_10.fst.length (List.drop (0 : Nat) x_10.fst), List.take x_13.fst.length (List.drop (0 : Nat) x_13.fst), List.take x_16.fst.length (List.drop (0 : Nat) x_16.fst), List.take
  x_19.fst.length (List.drop (0 : Nat) x_19.fst), IntKind.i64.wrap x_7.fst, IntKind.i64.wrap x.fst)).snd.fst, ()) ∧ post ((0 : Int), ([], [], [], [], (0 : Int), (0 : Int)), (checkR
  (IntKind.i64.wrap (b.getD (Int.toNat (4 : Int)) (0 : Int))) (List.take x_10.fst.length (List.drop (0 : Nat) x_10.fst), List.take x_13.fst.length (List.drop (0 : Nat) x_13.fst),
  List.take x_16.fst.length (List.drop (0 : Nat) x_16.fst), List.take x_19.fst.length (List.drop (0 : Nat) x_19.fst), IntKind.i64.wrap x_7.fst, IntKind.i64.wrap x.fst)).snd.fst,
  ()))))))))))) (post ((0 : Int), ([], [], [], [], (0 : Int), (0 : Int)), (32 : Int), ()) ∧ post ((0 : Int), ([], [], [], [], (0 : Int), (0 : Int)), (32 : Int), ()) ∧ post ((0 :
  Int), ([], [], [], [], (0 : Int), (0 : Int)), (32 : Int), ()))))) (post ((0 : Int), ([], [], [], [], (0 : Int), (0 : Int)), (30 : Int), ()) ∧ post ((0 : Int), ([], [], [], [], (0
  : Int), (0 : Int)), (30 : Int), ()) ∧ post ((0 : Int), ([], [], [], [], (0 : Int), (0 : Int)), (30 : Int), ()))) (post ((0 : Int), ([], [], [], [], (0 : Int), (0 : Int)), (31 :
  Int), ()) ∧ post ((0 : Int), ([], [], [], [], (0 : Int), (0 : Int)), (31 : Int), ()) ∧ post ((0 : Int), ([], [], [], [], (0 : Int), (0 : Int)), (31 : Int), ()))) (post ((0 : Int),
  ([], [], [], [], (0 : Int), (0 : Int)), (30 : Int), ()) ∧ post ((0 : Int), ([], [], [], [], (0 : Int), (0 : Int)), (30 : Int), ()) ∧ post ((0 : Int), ([], [], [], [], (0 : Int),
  (0 : Int)), (30 : Int), ()))) (post ((0 : Int), ([], [], [], [], (0 : Int), (0 : Int)), (30 : Int), ()) ∧ post ((0 : Int), ([], [], [], [], (0 : Int), (0 : Int)), (30 : Int), ())
  ∧ post ((0 : Int), ([], [], [], [], (0 : Int), (0 : Int)), (30 : Int), ()))) (post ((0 : Int), ([], [], [], [], (0 : Int), (0 : Int)), (30 : Int), ()) ∧ post ((0 : Int), ([], [],
  [], [], (0 : Int), (0 : Int)), (30 : Int), ()) ∧ post ((0 : Int), ([], [], [], [], (0 : Int), (0 : Int)), (30 : Int), ()))) (post ((0 : Int), ([], [], [], [], (0 : Int), (0 :
  Int)), (31 : Int), ()) ∧ post ((0 : Int), ([], [], [], [], (0 : Int), (0 : Int)), (31 : Int), ()) ∧ post ((0 : Int), ([], [], [], [], (0 : Int), (0 : Int)), (31 : Int), ()))
theorem Lx_save_Decode (ty0 ty1 ty2 ty3 : Nat) (b : List Int) (h : BLs b) (w : KS.wf [.slice (.int .u8)] (b, ())) : Fx_save_Decode ty0 ty1 ty2 ty3 b (fun r => r = deR b) := by
  have hl : b.length ≤ maxN := w.1.1
  have hm : maxN ≤ 281474976710656 := by decide
  have three : ∀ {P : Prop}, P → P ∧ P ∧ P := fun q => ⟨q, q, q⟩
  rintro _ rfl
  refine Br.intro (fun e => ?_) fun e => three (de_bad (form_31 (by have := of_decide_eq_false e; omega)) (by decide))
  have h21 : ¬ b.length < 21 := by have := of_decide_eq_true e; omega
  refine ⟨⟨by decide, by omega⟩, ⟨by decide, by decide, by omega⟩, ?_⟩
  rintro _ rfl
  show Br (decide _) _ _
  have wd : IntKind.i64.wrap (b.getD (Int.toNat (4 : Int)) (0 : Int)) = sideA b := iB (getB h 4)
  rw [headT h, wd]
  refine Br.intro (fun e1 => ?_) fun e => three (de_bad (form_30 h21 (.inl (by simpa using e))) (by decide))
  have t1 : b.take 4 = tarnL := by simpa using e1
  rintro _ rfl
  refine Br.intro (fun e => ?_) fun e => three (de_bad (form_30 h21 (.inr (.inl (by have := of_decide_eq_false e; omega)))) (by decide))
  have d1 := of_decide_eq_true e
  rintro _ rfl
  refine Br.intro (fun e => ?_) fun e => three (de_bad (form_30 h21 (.inr (.inr (by have := of_decide_eq_false e; omega)))) (by decide))
  have d2 := of_decide_eq_true e
  have good : ¬ (b.take 4 ≠ tarnL ∨ sideA b < 1 ∨ sideA b > 32) := by
    rintro (q | q | q)
    · exact q t1
    · omega
    · omega
  obtain ⟨N, hN, hNi, hN2, wN, sN⟩ := side_nums (d := sideA b) (by omega) (by omega)
  rw [wN]
  have hz : sizeR (sideA b) = (29 + 40 * (N : Int), ()) := by unfold sizeR; rw [sN]
  refine ⟨⟨by omega, by omega⟩, ?_⟩
  rw [hz]
  rintro _ rfl _ rfl
  refine Br.intro (fun e3 => ?_) fun e => three (de_bad (form_31b h21 good (by have e := of_decide_eq_false e; dsimp only at e; omega)) (by decide))
  have e3 := of_decide_eq_true e3
  dsimp only at e3
  refine ⟨⟨by omega, by omega⟩, ?_⟩
  rintro _ rfl _ rfl
  refine Br.intro (fun e4 => ?_) fun e => three (de_bad (form_30b h21 good (by omega) (fun q => by rw [q, sN] at e; simp at e)) (by decide))
  have e4 : (b.length : Int) = 29 + 40 * (N : Int) := beq_iff_eq.1 e4
  have hlen : b.length = 29 + 40 * N := by omega
  have w8 : IntKind.i64.wrap ((b.length : Int) - (8 : Int)) = (b.length : Int) - 8 := wi ⟨by omega, by omega⟩
  have t8 : ((b.length : Int) - 8).toNat = b.length - 8 := by omega
  rw [w8, restE (by omega) rfl, t8]
  have r0 : (b.drop (b.length - 8)).length = 8 := by rw [List.length_drop]; omega
  refine ⟨⟨by omega, by omega, by omega⟩, ⟨by omega, by omega⟩, ?_⟩
  rintro _ rfl
  refine Br.intro (fun e => ?_) fun e => ?_
  · have := of_decide_eq_true e; omega
  refine orLoop rfl rfl (h.drop _) (by omega) ⟨⟨by decide, by omega, by omega⟩, h.take _, ?_⟩
  rintro _ rfl
  rw [sumR_fst]
  rintro _ rfl
  refine Br.intro (fun e5 => ?_) fun e => three (de_bad (form_32 h21 good (by omega) (fun q => by
    have e : (unA b (b.length - 8) == sumF (b.take (b.length - 8))) = false := e
    rw [q] at e; simp at e)) (by decide))
  have f0 : formI b = 0 := form_0 h21 good (by omega) (beq_iff_eq.1 e5)
  refine ⟨⟨by decide, by omega, by omega⟩, ?_⟩
  rintro _ rfl
  have w6 : IntKind.i64.wrap ((2 : Int) * (N : Int)) = ((2 * N : Nat) : Int) := by rw [wi ⟨by omega, by omega⟩]; omega
  rw [w6, rest5, restD b 5, restD b (5 + 8), Int.toNat_natCast, Int.toNat_natCast]
  have r5 : (b.drop 5).length = b.length - 5 := List.length_drop
  have r13 : (b.drop (5 + 8)).length = b.length - 13 := List.length_drop
  rintro _ rfl
  refine Br.intro (fun e => ?_) fun e => ?_
  · have := of_decide_eq_true e; omega
  refine orLoop rfl rfl (h.drop _) (by omega) ⟨⟨by decide, by omega, by omega⟩, ?_⟩
  rintro _ rfl
  refine Br.intro (fun e => ?_) fun e => ?_
  · have := of_decide_eq_true e; omega
  refine orLoop rfl rfl (h.drop _) (by omega) ⟨⟨by decide, by omega, by omega⟩, ⟨by omega, by omega, by omega⟩, ⟨rfl, by rw [List.length_replicate]⟩, ?_⟩
  refine forS (n := N) (F := fun k => (realsA b (21) k ++ List.replicate (N - k) 0, (k : Int), b.drop (21 + 8 * k), ())) (ix := fun x => x.2.1) rfl ?_ (fun k => rfl) (fun I μ k y hk hi hm => ?_) ?_
  · show ([] ++ List.replicate (N - 0) 0, _, b.drop _, _) = _
    rw [List.nil_append, Nat.sub_zero]
    rfl
  · dsimp only at hi hm ⊢
    have rk : (b.drop (21 + 8 * k)).length = b.length - (21 + 8 * k) := List.length_drop
    rintro _ rfl
    refine Br.intro (fun e => ?_) fun e => ?_
    · have := of_decide_eq_true e; omega
    have xl : (realsA b (21) k ++ List.replicate (N - k) 0).length = N := by rw [List.length_append, realsA_len, List.length_replicate]; omega
    refine orLoop rfl rfl (h.drop _) (by omega) ⟨⟨by decide, by omega, by omega⟩, trivial, ⟨by omega, by rw [xl]; omega⟩, ⟨rfl, by rw [List.length_set]⟩, rfl, ?_⟩
    rw [restD, wi_succ hk (by omega), Int.toNat_natCast, set_fill (realsA_len b (21) k) hk]
    rw [realsA_succ] at hi hm
    exact ⟨hi, hm⟩
  dsimp only
  rw [Nat.sub_self, List.replicate_zero, List.append_nil]
  refine ⟨⟨by omega, by omega, by omega⟩, ⟨rfl, by rw [List.length_replicate]⟩, ?_⟩
  refine forS (n := N) (F := fun k => (wholesA b (21 + 8 * N) k ++ List.replicate (N - k) 0, (k : Int), b.drop (21 + 8 * N + 8 * k), ())) (ix := fun x => x.2.1) rfl ?_ (fun k => rfl) (fun I μ k y hk hi hm => ?_) ?_
  · show ([] ++ List.replicate (N - 0) 0, _, b.drop _, _) = _
    rw [List.nil_append, Nat.sub_zero]
    rfl
  · dsimp only at hi hm ⊢
    have rk : (b.drop (21 + 8 * N + 8 * k)).length = b.length - (21 + 8 * N + 8 * k) := List.length_drop
    rintro _ rfl
    refine Br.intro (fun e => ?_) fun e => ?_
    · have := of_decide_eq_true e; omega
    have xl : (wholesA b (21 + 8 * N) k ++ List.replicate (N - k) 0).length = N := by rw [List.length_append, wholesA_len, List.length_replicate]; omega
    refine orLoop rfl rfl (h.drop _) (by omega) ⟨⟨by decide, by omega, by omega⟩, ⟨by omega, by rw [xl]; omega⟩, ⟨rfl, by rw [List.length_set]⟩, rfl, ?_⟩
    rw [restD, wi_succ hk (by omega), Int.toNat_natCast, set_fill (wholesA_len b (21 + 8 * N) k) hk]
    rw [wholesA_succ] at hi hm
    exact ⟨hi, hm⟩
  dsimp only
  rw [Nat.sub_self, List.replicate_zero, List.append_nil]
  refine ⟨⟨by omega, by omega, by omega⟩, ⟨rfl, by rw [List.length_replicate]⟩, ?_⟩
  refine forS (n := N) (F := fun k => (wholesA b (21 + 8 * N + 8 * N) k ++ List.replicate (N - k) 0, (k : Int), b.drop (21 + 8 * N + 8 * N + 8 * k), ())) (ix := fun x => x.2.1) rfl ?_ (fun k => rfl) (fun I μ k y hk hi hm => ?_) ?_
  · show ([] ++ List.replicate (N - 0) 0, _, b.drop _, _) = _
    rw [List.nil_append, Nat.sub_zero]
    rfl
  · dsimp only at hi hm ⊢
    have rk : (b.drop (21 + 8 * N + 8 * N + 8 * k)).length = b.length - (21 + 8 * N + 8 * N + 8 * k) := List.length_drop
    rintro _ rfl
    refine Br.intro (fun e => ?_) fun e => ?_
    · have := of_decide_eq_true e; omega
    have xl : (wholesA b (21 + 8 * N + 8 * N) k ++ List.replicate (N - k) 0).length = N := by rw [List.length_append, wholesA_len, List.length_replicate]; omega
    refine orLoop rfl rfl (h.drop _) (by omega) ⟨⟨by decide, by omega, by omega⟩, ⟨by omega, by rw [xl]; omega⟩, ⟨rfl, by rw [List.length_set]⟩, rfl, ?_⟩
    rw [restD, wi_succ hk (by omega), Int.toNat_natCast, set_fill (wholesA_len b (21 + 8 * N + 8 * N) k) hk]
    rw [wholesA_succ] at hi hm
    exact ⟨hi, hm⟩
  dsimp only
  rw [Nat.sub_self, List.replicate_zero, List.append_nil]
  refine ⟨⟨by omega, by omega, by omega⟩, ⟨rfl, by rw [List.length_replicate]⟩, ?_⟩
  refine forS (n := (2 * N)) (F := fun k => (realsA b (21 + 8 * N + 8 * N + 8 * N) k ++ List.replicate ((2 * N) - k) 0, (k : Int), b.drop (21 + 8 * N + 8 * N + 8 * N + 8 * k), ())) (ix := fun x => x.2.1) rfl ?_ (fun k => rfl) (fun I μ k y hk hi hm => ?_) ?_
  · show ([] ++ List.replicate ((2 * N) - 0) 0, _, b.drop _, _) = _
    rw [List.nil_append, Nat.sub_zero]
    rfl
  · dsimp only at hi hm ⊢
    have rk : (b.drop (21 + 8 * N + 8 * N + 8 * N + 8 * k)).length = b.length - (21 + 8 * N + 8 * N + 8 * N + 8 * k) := List.length_drop
    rintro _ rfl
    refine Br.intro (fun e => ?_) fun e => ?_
    · have := of_decide_eq_true e; omega
    have xl : (realsA b (21 + 8 * N + 8 * N + 8 * N) k ++ List.replicate ((2 * N) - k) 0).length = (2 * N) := by rw [List.length_append, realsA_len, List.length_replicate]; omega
    refine orLoop rfl rfl (h.drop _) (by omega) ⟨⟨by decide, by omega, by omega⟩, trivial, ⟨by omega, by rw [xl]; omega⟩, ⟨rfl, by rw [List.length_set]⟩, rfl, ?_⟩
    rw [restD, wi_succ hk (by omega), Int.toNat_natCast, set_fill (realsA_len b (21 + 8 * N + 8 * N + 8 * N) k) hk]
    rw [realsA_succ] at hi hm
    exact ⟨hi, hm⟩
  dsimp only
  rw [Nat.sub_self, List.replicate_zero, List.append_nil]
  rw [List.drop_zero, List.take_length, List.drop_zero, List.take_length, List.drop_zero, List.take_length, List.drop_zero, List.take_length]
  have hS : (realsA b 21 N, wholesA b (21 + 8 * N) N, wholesA b (21 + 8 * N + 8 * N) N, realsA b (21 + 8 * N + 8 * N + 8 * N) (2 * N), IntKind.i64.wrap (unL ((b.drop (5 + 8)).take 8)), IntKind.i64.wrap (unL ((b.drop 5).take 8))) = seaB b := by
    unfold seaB
    rw [← hN, show 21 + 8 * N + 8 * N = 21 + 16 * N by omega, show 21 + 16 * N + 8 * N = 21 + 24 * N by omega]; rfl
  rw [hS]
  have hok : SeaOk (seaB b) := by unfold seaB; rw [← hN]; exact seaA_ok h hlen
  refine ⟨⟨⟨by omega, by omega⟩, hok⟩, ?_⟩
  rintro _ rfl
  refine Br.intro (fun e => have q := de_good f0 rfl rfl (beq_iff_eq.1 e); ⟨⟨q, q⟩, q⟩) fun e => three (de_bad2 f0 rfl rfl (fun q => ?_))
  have e : ((checkI (sideA b) (seaB b)).2 == 0) = false := e
  rw [q] at e; simp at e
end Go.Lift

set_option linter.unusedVariables false
set_option linter.unusedSimpArgs false
namespace Go.Lift
open Go.Proofs
def Nx_save_Decode : Cx := ⟨tabOf Ntab, conOf [(43, Nq_save_size), (22, Nq_save_Sum), (24, Nq_state_Check), (95, Nq_math_Float64frombits)], NG⟩
theorem Nx_save_Decode_ok : CxOk Tryz.prog Nx_save_Decode := ⟨tabB_sound Ntab_ok, conOf_sound ⟨Nh_save_size, Nh_save_Sum, Nh_state_Check, Nh_math_Float64frombits, trivial⟩⟩
theorem Nat_save_Decode : FnAt Tryz.prog 19 Tryz.f19.ntmps Tryz.f19.results.toList (Tryz.f19.body.getD .skip) := ⟨Tryz.f19, Tryz.func19, rfl, rfl, by simp, by decide⟩
theorem Neq_save_Decode (b : List Int) (post : Int × ((List Nat) × (List Int) × (List Int) × (List Nat) × Int × Int) × Int × Unit → Prop) : fnEvalD Nx_save_Decode Nhn_save_Decode (callLvl Nx_save_Decode Nfns_reader 6) Ntk_save_Decode 50 49 ⟨4, 3, 28, 25, 75, 20, 76⟩ Tryz.f19.ntmps Tryz.f19.results.toList (Tryz.f19.body.getD .skip) [.slice (.int .u8)] [.snap (.int .i64), .snap kSea, .snap (.int .i64)] (b, ()) post = Fx_save_Decode 3 25 28 80 b post := by kernel_rfl
theorem Nmust_save_Decode : MustOk Tryz.prog 50 (faultV ⟨4, 3, 28, 25, 75, 20, 76⟩) :=
  must_ok (y := ⟨4, 3, 28, 25, 75, 20, 76⟩) Nx_save_Decode_ok.1 (fn := Tryz.f50) Tryz.func50 rfl rfl rfl (by decide) rfl rfl
theorem Nh_save_Decode : Nq_save_Decode.holds Tryz.prog NG 19 :=
  nam_of_det (detD Nx_save_Decode_ok Nmixed Nhn_save_Decode (callLvl_ok Nx_save_Decode_ok Nmixed Nfns_reader_ok 6) Nmust_save_Decode (fd := Tryz.f49) Tryz.func49 rfl rfl rfl (by decide) (by kernel_rfl) rfl Nat_save_Decode (F := fun x post => Fx_save_Decode 3 25 28 80 x.1 post) (fun x post => Neq_save_Decode x.1 post) fun x h w => Lx_save_Decode 3 25 28 80 x.1 h w)
end Go.Lift

set_option linter.unusedVariables false
set_option linter.unusedSimpArgs false
namespace Go.Lift
open Go.Proofs
def Nx_law25_lake : Cx := ⟨tabOf Ntab, conOf [(91, Nq_grid_Grid_Cells), (92, Nq_grid_Grid_Edges), (93, Nq_grid_Grid_Area)], NG⟩
theorem Nx_law25_lake_ok : CxOk Tryz.prog Nx_law25_lake := ⟨tabB_sound Ntab_ok, conOf_sound ⟨Nh_grid_Grid_Cells, Nh_grid_Grid_Edges, Nh_grid_Grid_Area, trivial⟩⟩
theorem Nat_law25_lake : FnAt Tryz.prog 42 Tryz.f42.ntmps Tryz.f42.results.toList (Tryz.f42.body.getD .skip) := ⟨Tryz.f42, Tryz.func42, rfl, rfl, by simp, by decide⟩
theorem Neq_law25_lake_0  (post : ((List Nat) × (List Int) × (List Int) × (List Nat) × Int × Int) × Unit → Prop) : fnEval Nx_law25_lake Nhn_law25_lake Tryz.f42.ntmps Tryz.f42.results.toList (Tryz.f42.body.getD .skip) [.ptr kGrid] [.snap kSea] (none, ()) post = Fx_law25_lake_0 25 53 2  post := by kernel_rfl
theorem Neq_law25_lake_1 (g : Int × (List (Int × Int × Int × Int)) × (List ((Int × Int) × Int)) × (List (List Int)) × (List Int) × (List Nat) × List Nat) (post : ((List Nat) × (List Int) × (List Int) × (List Nat) × Int × Int) × Unit → Prop) : fnEval Nx_law25_lake Nhn_law25_lake Tryz.f42.ntmps Tryz.f42.results.toList (Tryz.f42.body.getD .skip) [.ptr kGrid] [.snap kSea] ((some g), ()) post = Fx_law25_lake_1 25 53 2 g post := by kernel_rfl
def NF_law25_lake (x : KS [.ptr kGrid]) (post : RS [.snap kSea] → Prop) : Prop := match x with
  | (none, y) => Fx_law25_lake_0 25 53 2  post
  | (some g, y) => Fx_law25_lake_1 25 53 2 g post
theorem Nh_law25_lake : Nq_law25_lake.holds Tryz.prog NG 42 :=
  nam_of_det (detP Nx_law25_lake_ok Nmixed Nhn_law25_lake Nat_law25_lake (F := NF_law25_lake) (fun x post => match x with
    | (none, y) => Neq_law25_lake_0  post
    | (some g, y) => Neq_law25_lake_1 g post) fun x h w => match x, h, w with
    | (none, y), h, w => Lx_law25_lake_0 25 53 2  w
    | (some g, y), h, w => Lx_law25_lake_1 25 53 2 g w)
def Nx_law25_lives : Cx := ⟨tabOf Ntab, conOf [(41, Nq_grid_New), (42, Nq_law25_lake), (17, Nq_save_Encode), (19, Nq_save_Decode), (21, Nq_law25_seas), (22, Nq_save_Sum)], NG⟩
theorem Nx_law25_lives_ok : CxOk Tryz.prog Nx_law25_lives := ⟨tabB_sound Ntab_ok, conOf_sound ⟨Nh_grid_New, Nh_law25_lake, Nh_save_Encode, Nh_save_Decode, Nh_law25_seas, Nh_save_Sum, trivial⟩⟩
theorem Nat_law25_lives : FnAt Tryz.prog 16 Tryz.f16.ntmps Tryz.f16.results.toList (Tryz.f16.body.getD .skip) := ⟨Tryz.f16, Tryz.func16, rfl, rfl, by simp, by decide⟩
theorem Neq_law25_lives  (post : Bool × Unit → Prop) : fnEval Nx_law25_lives Nhn_law25_lives Tryz.f16.ntmps Tryz.f16.results.toList (Tryz.f16.body.getD .skip) [] [.snap .bool] (()) post = Fx_law25_lives   post := by kernel_rfl
theorem Nh_law25_lives : Nq_law25_lives.holds Tryz.prog NG 16 :=
  nam_of_det (detP Nx_law25_lives_ok Nmixed Nhn_law25_lives Nat_law25_lives (F := fun x post => Fx_law25_lives   post) (fun x post => Neq_law25_lives  post) fun x _ _ => Lx_law25_lives  )
end Go.Lift

set_option linter.unusedVariables false
set_option linter.unusedSimpArgs false
namespace Go.Lift
open Go.Proofs
def Nx_law25_SaveDecodes : Cx := ⟨tabOf Ntab, conOf [(16, Nq_law25_lives), (19, Nq_save_Decode), (20, Nq_ref25_Decode), (21, Nq_law25_seas), (22, Nq_save_Sum), (23, Nq_ref25_Sum)], NG⟩
theorem Nx_law25_SaveDecodes_ok : CxOk Tryz.prog Nx_law25_SaveDecodes := ⟨tabB_sound Ntab_ok, conOf_sound ⟨Nh_law25_lives, Nh_save_Decode, Nh_ref25_Decode, Nh_law25_seas, Nh_save_Sum, Nh_ref25_Sum, trivial⟩⟩
theorem Nat_law25_SaveDecodes : FnAt Tryz.prog 5 Tryz.f5.ntmps Tryz.f5.results.toList (Tryz.f5.body.getD .skip) := ⟨Tryz.f5, Tryz.func5, rfl, rfl, by simp, by decide⟩
theorem Neq_law25_SaveDecodes (b : List Int) (post : Bool × Unit → Prop) : fnEval Nx_law25_SaveDecodes Nhn_law25_SaveDecodes Tryz.f5.ntmps Tryz.f5.results.toList (Tryz.f5.body.getD .skip) [.slice (.int .u8)] [.snap .bool] (b, ()) post = Fx_law25_SaveDecodes  b post := by kernel_rfl
theorem Nh_law25_SaveDecodes : Nq_law25_SaveDecodes.holds Tryz.prog NG 5 :=
  detP Nx_law25_SaveDecodes_ok Nmixed Nhn_law25_SaveDecodes Nat_law25_SaveDecodes (F := fun x post => Fx_law25_SaveDecodes  x.1 post) (fun x post => Neq_law25_SaveDecodes x.1 post) fun x h w => Lx_law25_SaveDecodes  x.1 h w
end Go.Lift

namespace Go.Proofs.YtomopcclgokehaaGreatDoor
open Go.Lift
theorem saveDecodes_law : LawSpec Rows.saveDecodesSpec 1 := ⟨rfl, fun H ds h => by
  match ds, h with
  | [d1], _ => rfl⟩
set_option maxRecDepth 100000 in
theorem saveDecodes_lifted (os : Os) (started : os.Started) (H : Type) (enc : TypeId × Value → H) :
    ReturnsInHanded {} Tryz.checked os 5 .any (fun w args => (Rows.saveDecodesSpec.pre enc Tryz.prog Tryz.f5 [] false w args ∧ laidMetH Tryz.prog laidL w) ∧ sizedMet enc Tryz.prog Tryz.f5 (OpenSpec.ofChange Rows.saveDecodesSpec) false w args) (Rows.saveDecodesSpec.post enc Tryz.prog Tryz.f5 false true false false) :=
  law_laid (C := Tryz.checked) (X := fun w _ => laidMetH Tryz.prog laidL w) (fun _ _ _ hh h => h.of_heap hh) (fun w _ h => laid_globs w h) own started (by kernel_rfl) Tryz.func5 rfl (by decide)
    (ChangeSpec.witness_shaped (enc := enc) (C := Tryz.checked) (os := os) (X := fun w _ => laidMetH Tryz.prog laidL w) false (World.doorLaid Tryz.prog 400 os) #[.slice none 0 0] 12 rfl (World.shaped_of_RefB (by kernel_rfl) (by kernel_rfl)) (by kernel_rfl) (by kernel_rfl) (by kernel_rfl) (door_met os _))
    laidOut (ktsB_sound _ [.slice (.int .u8)] (by kernel_rfl)) (by decide +kernel) rfl (by kernel_rfl) saveDecodes_law Nh_law25_SaveDecodes (fun x h w => rngB h.1)
theorem saveDecodes_holds : Rows.SaveDecodesSaid :=
  OpenClaim.holds_of_wide 5 Tryz.f5 rfl rfl rfl rfl rfl rfl rfl ⟨rfl, rfl, rfl, rfl, rfl⟩ rfl rfl rfl rfl rfl (by kernel_rfl) Tryz.func5 (by kernel_rfl)
    (of_decide_eq_true (by kernel_rfl)) (by unfold Func.isWrapper; first | (rw [if_pos (by decide +kernel)]; kernel_rfl) | (rw [if_neg (by decide +kernel)]; exact ⟨rfl, rfl⟩))
    (fun os started H enc _ => saveDecodes_lifted os started H enc)
theorem saveDecodes_card : Rows.SaveDecodesCardSaid :=
  Claim7.holds_tied_plain_at .later [] [.wider, .data] true (true, "2273f09aaa9b9b1a38ee314dd1dcc464b3e9af4b3fa99a5ece1fa69518c1ab6d") true
    saveDecodes_holds (fun _ h => by cases h) (by kernel_rfl) (fun _ h => by cases h) saveDecodes_row_tie rfl ⟨rfl, rfl⟩ (by kernel_rfl) rfl
    (fun f fn hf hfn => by
      obtain rfl : f = 5 := Option.some.inj ((show Tryz.prog.funcNamed "tarn/tarnlaw25.SaveDecodes" = some 5 by kernel_rfl).symm.trans hf) |>.symm
      obtain rfl : fn = Tryz.f5 := (Option.some.inj (Tryz.func5.symm.trans hfn)).symm
      exact ⟨by kernel_rfl, fun j t ht => by
        rw [Tryz.params5] at ht
        have hm : t ∈ [37] := by simpa using Array.mem_of_getElem? ht
        have hall : ([37].all fun u => !Tryz.prog.wantsStandIn u) = true := by kernel_rfl
        exact (show Tryz.prog.wantsStandIn t = false by simpa using List.all_eq_true.1 hall t hm)⟩)
    (by kernel_rfl)
end Go.Proofs.YtomopcclgokehaaGreatDoor
