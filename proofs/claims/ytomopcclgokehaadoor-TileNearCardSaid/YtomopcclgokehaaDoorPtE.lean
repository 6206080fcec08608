/- A part of the proof of TileNearCard: an own lifter of code into plain terms, and plain laws. -/
import Derived.Test.YtomopcclgokehaaDoorPtD
set_option linter.unusedVariables false
set_option linter.unusedSimpArgs false
set_option linter.unusedSectionVars false
/- Own work. -/
set_option linter.unusedVariables false
set_option linter.unusedSimpArgs false
namespace Go.Lift
def Fx_law24_same := fun (ty25 : Nat) (a b : Int × Int × Int × List Int) (post : Bool × Unit → Prop) => ∀ (a_1 : Bool), a_1 = (a.fst != b.fst) → Br a_1 (post (Bool.false, ())) (∀
  (a_2 : Bool), a_2 = (a.snd.fst != b.snd.fst) → Br a_2 (post (Bool.false, ())) (∀ (a_3 : Bool), a_3 = (a.snd.snd.fst != b.snd.snd.fst) → Br a_3 (post (Bool.false, ())) (∀ (a_4 :
  Bool), a_4 = ((↑a.snd.snd.snd.length : Int) != (↑b.snd.snd.snd.length : Int)) → Br a_4 (post (Bool.false, ())) (HIs [HObj.box Md.rw ty25 [SV.val (Go.Value.int IntKind.i64 a.fst),
  SV.val (Go.Value.int IntKind.u32 a.snd.fst), SV.val (Go.Value.int IntKind.u32 a.snd.snd.fst), SV.data (K.int IntKind.u32).slice a.snd.snd.snd], HObj.box Md.rw ty25 [SV.val
  (Go.Value.int IntKind.i64 b.fst), SV.val (Go.Value.int IntKind.u32 b.snd.fst), SV.val (Go.Value.int IntKind.u32 b.snd.snd.fst), SV.data (K.int IntKind.u32).slice b.snd.snd.snd]]
  [HObj.box Md.rw ty25 [SV.val (Go.Value.int IntKind.i64 a.fst), SV.val (Go.Value.int IntKind.u32 a.snd.fst), SV.val (Go.Value.int IntKind.u32 a.snd.snd.fst), SV.data (K.int
  IntKind.u32).slice a.snd.snd.snd], HObj.box Md.rw ty25 [SV.val (Go.Value.int IntKind.i64 b.fst), SV.val (Go.Value.int IntKind.u32 b.snd.fst), SV.val (Go.Value.int IntKind.u32
  b.snd.snd.fst), SV.data (K.int IntKind.u32).slice b.snd.snd.snd]] ∧ ∃ (I : Int × Unit → Unit → Prop), ∃ (μ : Int × Unit → Unit → Nat), I ((0 : Int), ()) () ∧ ∀ (x : Int × Unit) (y
  : Unit), I x y → ∀ (a_5 : Bool), a_5 = decide (x.fst < (↑a.snd.snd.snd.length : Int)) → Br a_5 (∃ (h : (0 : Int) ≤ x.fst ∧ x.fst < (↑a.snd.snd.snd.length : Int)), ∃ (h : (0 : Int)
  ≤ x.fst ∧ x.fst < (↑b.snd.snd.snd.length : Int)), ∀ (a_6 : Bool), a_6 = (a.snd.snd.snd.getD x.fst.toNat (0 : Int) != b.snd.snd.snd.getD x.fst.toNat (0 : Int)) → Br a_6 (post
  (Bool.false, ())) (HIs [HObj.box Md.rw ty25 [SV.val (Go.Value.int IntKind.i64 a.fst), SV.val (Go.Value.int IntKind.u32 a.snd.fst), SV.val (Go.Value.int IntKind.u32 a.snd.snd.fst),
  SV.data (K.int IntKind.u32).slice a.snd.snd.snd], HObj.box Md.rw ty25 [SV.val (Go.Value.int IntKind.i64 b.fst), SV.val (Go.Value.int IntKind.u32 b.snd.fst), SV.val (Go.Value.int
  IntKind.u32 b.snd.snd.fst), SV.data (K.int IntKind.u32).slice b.snd.snd.snd]] [HObj.box Md.rw ty25 [SV.val (Go.Value.int IntKind.i64 a.fst), SV.val (Go.Value.int IntKind.u32
  a.snd.fst), SV.val (Go.Value.int IntKind.u32 a.snd.snd.fst), SV.data (K.int IntKind.u32).slice a.snd.snd.snd], HObj.box Md.rw ty25 [SV.val (Go.Value.int IntKind.i64 b.fst), SV.val
  (Go.Value.int IntKind.u32 b.snd.fst), SV.val (Go.Value.int IntKind.u32 b.snd.snd.fst), SV.data (K.int IntKind.u32).slice b.snd.snd.snd]] ∧ I (IntKind.i64.wrap (x.fst + (1 : Int)),
  ()) () ∧ μ (IntKind.i64.wrap (x.fst + (1 : Int)), ()) () < μ x y)) (post (Bool.true, ()))))))
theorem Lx_law24_same (ty0 : Nat) (a : Int × Int × Int × List Int) (b : Int × Int × Int × List Int) (w : KS.wf [kTile, kTile] (a, b, ())) : Fx_law24_same ty0 a b (fun r => r = sameTR a b) := by
  have hl : a.2.2.2.length ≤ maxN := w.1.2.2.2.1
  unfold maxN at hl
  have no : a ≠ b → (false, ()) = sameTR a b := fun q => congrArg r1 (decide_eq_false q).symm
  rintro _ rfl
  refine Br.intro (fun e => no fun q => bne_int.1 e (by rw [q])) fun e => ?_
  have e0 := bne_int.2 e
  rintro _ rfl
  refine Br.intro (fun e => no fun q => bne_int.1 e (by rw [q])) fun e => ?_
  have e1 := bne_int.2 e
  rintro _ rfl
  refine Br.intro (fun e => no fun q => bne_int.1 e (by rw [q])) fun e => ?_
  have e2 := bne_int.2 e
  rintro _ rfl
  refine Br.intro (fun e => no fun q => bne_int.1 e (by rw [q])) fun e => ?_
  have e3 : a.2.2.2.length = b.2.2.2.length := by have := bne_int.2 e; omega
  refine ⟨rfl, fun x _ => ∃ i : Nat, x.1 = i ∧ i ≤ a.2.2.2.length ∧ a.2.2.2.take i = b.2.2.2.take i, fun x _ => a.2.2.2.length - x.1.toNat, ⟨0, rfl, by omega, rfl⟩, ?_⟩
  rintro ⟨_, ⟨⟩⟩ _ ⟨i, rfl, hil, hi⟩
  dsimp only
  rintro _ rfl
  refine Br.intro (fun e => ?_) fun e => ?_
  · have e : i < a.2.2.2.length := by have := of_decide_eq_true e; omega
    refine ⟨⟨by omega, by omega⟩, ⟨by omega, by omega⟩, ?_⟩
    rw [Int.toNat_natCast, wi_succ e (by omega)]
    rintro _ rfl
    refine Br.intro (fun f => no fun q => bne_int.1 f (by rw [q])) fun f => ?_
    have f := bne_int.2 f
    exact ⟨rfl, ⟨i + 1, rfl, by omega, by rw [take_step e 0, take_step (by omega) 0, hi, f]⟩, by omega⟩
  · have e : ¬ i < a.2.2.2.length := by have := of_decide_eq_false e; omega
    rw [List.take_of_length_le (by omega), List.take_of_length_le (by omega)] at hi
    refine congrArg r1 (decide_eq_true ?_).symm
    obtain ⟨a0, a1, a2, a3⟩ := a
    obtain ⟨b0, b1, b2, b3⟩ := b
    dsimp only at e0 e1 e2 hi
    rw [e0, e1, e2, hi]
def Fx_law24_four := fun (post : (Int × Int × Int × List Int) × Unit → Prop) => post (((5 : Int), (0 : Int), (1073741824 : Int), [(1065353216 : Int), (1073741824 : Int), (0 : Int),
  (1065353216 : Int)]), ())
theorem Lx_law24_four  : Fx_law24_four   (fun r => r = fourR) := by
  exact rfl
def Fx_law24_awake := fun (post : Bool × Unit → Prop) => ∃ (h : True), ∃ (h : TiOk fourR.fst), ∃ (h : BLs [(84 : Int), (73 : Int), (76 : Int), (69 : Int), fourR.fst.fst, rootI
  (↑fourR.fst.snd.snd.snd.length : Int), fourR.fst.snd.fst % (256 : Int), fourR.fst.snd.fst / (256 : Int) % (256 : Int), fourR.fst.snd.fst / (65536 : Int) % (256 : Int),
  fourR.fst.snd.fst / (16777216 : Int) % (256 : Int), fourR.fst.snd.snd.fst % (256 : Int), fourR.fst.snd.snd.fst / (256 : Int) % (256 : Int), fourR.fst.snd.snd.fst / (65536 : Int) %
  (256 : Int), fourR.fst.snd.snd.fst / (16777216 : Int) % (256 : Int), xorI (1065353216 : Int) (0 : Int) % (256 : Int), xorI (1065353216 : Int) (0 : Int) / (256 : Int) % (256 :
  Int), xorI (1065353216 : Int) (0 : Int) / (65536 : Int) % (256 : Int), xorI (1065353216 : Int) (0 : Int) / (16777216 : Int) % (256 : Int), xorI (1073741824 : Int) (1065353216 :
  Int) % (256 : Int), xorI (1073741824 : Int) (1065353216 : Int) / (256 : Int) % (256 : Int), xorI (1073741824 : Int) (1065353216 : Int) / (65536 : Int) % (256 : Int), xorI
  (1073741824 : Int) (1065353216 : Int) / (16777216 : Int) % (256 : Int), xorI (0 : Int) (1073741824 : Int) % (256 : Int), xorI (0 : Int) (1073741824 : Int) / (256 : Int) % (256 :
  Int), xorI (0 : Int) (1073741824 : Int) / (65536 : Int) % (256 : Int), xorI (0 : Int) (1073741824 : Int) / (16777216 : Int) % (256 : Int), xorI (1065353216 : Int) (0 : Int) % (256
  : Int), xorI (1065353216 : Int) (0 : Int) / (256 : Int) % (256 : Int), xorI (1065353216 : Int) (0 : Int) / (65536 : Int) % (256 : Int), xorI (1065353216 : Int) (0 : Int) /
  (16777216 : Int) % (256 : Int)]), ∃ (h : BLs []), ∃ (h : (0 : Int) ≤ (6 : Int) ∧ (6 : Int) ≤ (6 : Int) ∧ (6 : Int) * (↑(8 : Nat) : Int) ≤ (281474976710656 : Int)), ∃ (h : (0 :
  Int) ≤ (6 : Int) ∧ (6 : Int) ≤ (6 : Int) ∧ (6 : Int) * (↑(8 : Nat) : Int) ≤ (281474976710656 : Int)), ∃ (h : (0 : Int) ≤ (12 : Int) ∧ (12 : Int) ≤ (12 : Int) ∧ (12 : Int) * (↑(8 :
  Nat) : Int) ≤ (281474976710656 : Int)), ∃ (h : WCheck (1 : Int) ([(0 : Nat), (0 : Nat), (0 : Nat), (0 : Nat), (0 : Nat), (0 : Nat)], [(1431655765 : Int), (0 : Int), (0 : Int), (0
  : Int), (0 : Int), (0 : Int)], [(0 : Int), (0 : Int), (0 : Int), (0 : Int), (0 : Int), (0 : Int)], [(0 : Nat), (0 : Nat), (0 : Nat), (0 : Nat), (0 : Nat), (0 : Nat), (0 : Nat), (0
  : Nat), (0 : Nat), (0 : Nat), (0 : Nat), (0 : Nat)], (0 : Int), (0 : Int))), ∀ (a : Bool), a = ((encodeR fourR.fst).snd.fst == (0 : Int)) → Br a (∀ (a : Bool), (a = if Bool.false
  = Bool.true then !decide (List.map byteOf [(84 : Int), (73 : Int), (76 : Int), (69 : Int), fourR.fst.fst, rootI (↑fourR.fst.snd.snd.snd.length : Int), fourR.fst.snd.fst % (256 :
  Int), fourR.fst.snd.fst / (256 : Int) % (256 : Int), fourR.fst.snd.fst / (65536 : Int) % (256 : Int), fourR.fst.snd.fst / (16777216 : Int) % (256 : Int), fourR.fst.snd.snd.fst %
  (256 : Int), fourR.fst.snd.snd.fst / (256 : Int) % (256 : Int), fourR.fst.snd.snd.fst / (65536 : Int) % (256 : Int), fourR.fst.snd.snd.fst / (16777216 : Int) % (256 : Int), xorI
  (1065353216 : Int) (0 : Int) % (256 : Int), xorI (1065353216 : Int) (0 : Int) / (256 : Int) % (256 : Int), xorI (1065353216 : Int) (0 : Int) / (65536 : Int) % (256 : Int), xorI
  (1065353216 : Int) (0 : Int) / (16777216 : Int) % (256 : Int), xorI (1073741824 : Int) (1065353216 : Int) % (256 : Int), xorI (1073741824 : Int) (1065353216 : Int) / (256 : Int) %
  (256 : Int), xorI (1073741824 : Int) (1065353216 : Int) / (65536 : Int) % (256 : Int), xorI (1073741824 : Int) (1065353216 : Int) / (16777216 : Int) % (256 : Int), xorI (0 : Int)
  (1073741824 : Int) % (256 : Int), xorI (0 : Int) (1073741824 : Int) / (256 : Int) % (256 : Int), xorI (0 : Int) (1073741824 : Int) / (65536 : Int) % (256 : Int), xorI (0 : Int)
  (1073741824 : Int) / (16777216 : Int) % (256 : Int), xorI (1065353216 : Int) (0 : Int) % (256 : Int), xorI (1065353216 : Int) (0 : Int) / (256 : Int) % (256 : Int), xorI
  (1065353216 : Int) (0 : Int) / (65536 : Int) % (256 : Int), xorI (1065353216 : Int) (0 : Int) / (16777216 : Int) % (256 : Int)] = strBytes { data := #[(84 : UInt8), (73 : UInt8),
  (76 : UInt8), (69 : UInt8), (5 : UInt8), (2 : UInt8), (0 : UInt8), (0 : UInt8), (0 : UInt8), (0 : UInt8), (0 : UInt8), (0 : UInt8), (0 : UInt8), (64 : UInt8), (0 : UInt8), (0 :
  UInt8), (128 : UInt8), (63 : UInt8), (0 : UInt8), (0 : UInt8), (128 : UInt8), (127 : UInt8), (0 : UInt8), (0 : UInt8), (0 : UInt8), (64 : UInt8), (0 : UInt8), (0 : UInt8), (128 :
  UInt8), (63 : UInt8)] }) else decide (List.map byteOf [(84 : Int), (73 : Int), (76 : Int), (69 : Int), fourR.fst.fst, rootI (↑fourR.fst.snd.snd.snd.length : Int),
  fourR.fst.snd.fst % (256 : Int), fourR.fst.snd.fst / (256 : Int) % (256 : Int), fourR.fst.snd.fst / (65536 : Int) % (256 : Int), fourR.fst.snd.fst / (16777216 : Int) % (256 :
  Int), fourR.fst.snd.snd.fst % (256 : Int), fourR.fst.snd.snd.fst / (256 : Int) % (256 : Int), fourR.fst.snd.snd.fst / (65536 : Int) % (256 : Int), fourR.fst.snd.snd.fst /
  (16777216 : Int) % (256 : Int), xorI (1065353216 : Int) (0 : Int) % (256 : Int), xorI (1065353216 : Int) (0 : Int) / (256 : Int) % (256 : Int), xorI (1065353216 : Int) (0 : Int) /
  (65536 : Int) % (256 : Int), xorI (1065353216 : Int) (0 : Int) / (16777216 : Int) % (256 : Int), xorI (1073741824 : Int) (1065353216 : Int) % (256 : Int), xorI (1073741824 : Int)
  (1065353216 : Int) / (256 : Int) % (256 : Int), xorI (1073741824 : Int) (1065353216 : Int) / (65536 : Int) % (256 : Int), xorI (1073741824 : Int) (1065353216 : Int) / (16777216 :
  Int) % (256 : Int), xorI (0 : Int) (1073741824 : Int) % (256 : Int), xorI (0 : Int) (1073741824 : Int) / (256 : Int) % (256 : Int), xorI (0 : Int) (1073741824 : Int) / (65536 :
  Int) % (256 : Int), xorI (0 : Int) (1073741824 : Int) / (16777216 : Int) % (256 : Int), xorI (1065353216 : Int) (0 : Int) % (256 : Int), xorI (1065353216 : Int) (0 : Int) / (256 :
  Int) % (256 : Int), xorI (1065353216 : Int) (0 : Int) / (65536 : Int) % (256 : Int), xorI (1065353216 : Int) (0 : Int) / (16777216 : Int) % (256 : Int)] = strBytes { data := #[(84
  : UInt8), (73 : UInt8), (76 : UInt8), (69 : UInt8), (5 : UInt8), (2 : UInt8), (0 : UInt8), (0 : UInt8), (0 : UInt8), (0 : UInt8), (0 : UInt8), (0 : UInt8), (0 : UInt8), (64 :
  UInt8), (0 : UInt8), (0 : UInt8), (128 : UInt8), (63 : UInt8), (0 : UInt8), (0 : UInt8), (128 : UInt8), (127 : UInt8), (0 : UInt8), (0 : UInt8), (0 : UInt8), (64 : UInt8), (0 :
  UInt8), (0 : UInt8), (128 : UInt8), (63 : UInt8)] })) → Br a (∀ (a : Bool), a = ((decodeR [(84 : Int), (73 : Int), (76 : Int), (69 : Int), fourR.fst.fst, rootI
  (↑fourR.fst.snd.snd.snd.length : Int), fourR.fst.snd.fst % (256 : Int), fourR.fst.snd.fst / (256 : Int) % (256 : Int), fourR.fst.snd.fst / (65536 : Int) % (256 : Int),
  fourR.fst.snd.fst / (16777216 : Int) % (256 : Int), fourR.fst.snd.snd.fst % (256 : Int), fourR.fst.snd.snd.fst / (256 : Int) % (256 : Int), fourR.fst.snd.snd.fst / (65536 : Int) %
  (256 : Int), fourR.fst.snd.snd.fst / (16777216 : Int) % (256 : Int), xorI (1065353216 : Int) (0 : Int) % (256 : Int), xorI (1065353216 : Int) (0 : Int) / (256 : Int) % (256 :
  Int), xorI (1065353216 : Int) (0 : Int) / (65536 : Int) % (256 : Int), xorI (1065353216 : Int) (0 : Int) / (16777216 : Int) % (256 : Int), xorI (1073741824 : Int) (1065353216 :
  Int) % (256 : Int), xorI (1073741824 : Int) (1065353216 : Int) / (256 : Int) % (256 : Int), xorI (1073741824 : Int) (1065353216 : Int) / (65536 : Int) % (256 : Int), xorI
  (1073741824 : Int) (1065353216 : Int) / (16777216 : Int) % (256 : Int), xorI (0 : Int) (1073741824 : Int) % (256 : Int), xorI (0 : Int) (1073741824 : Int) / (256 : Int) % (256 :
  Int), xorI (0 : Int) (1073741824 : Int) / (65536 : Int) % (256 : Int), xorI (0 : Int) (1073741824 : Int) / (16777216 : Int) % (256 : Int), xorI (1065353216 : Int) (0 : Int) % (256
  : Int), xorI (1065353216 : Int) (0 : Int) / (256 : Int) % (256 : Int), xorI (1065353216 : Int) (0 : Int) / (65536 : Int) % (256 : Int), xorI (1065353216 : Int) (0 : Int) /
  (16777216 : Int) % (256 : Int)]).snd.fst == (0 : Int)) → Br a (∃ (h : True), ∃ (h : True), ∀ (a : Bool), a = (sameTR ((decodeR [(84 : Int), (73 : Int), (76 : Int), (69 : Int),
  fourR.fst.fst, rootI (↑fourR.fst.snd.snd.snd.length : Int), fourR.fst.snd.fst % (256 : Int), fourR.fst.snd.fst / (256 : Int) % (256 : Int), fourR.fst.snd.fst / (65536 : Int) %
  (256 : Int), fourR.fst.snd.fst / (16777216 : Int) % (256 : Int), fourR.fst.snd.snd.fst % (256 : Int), fourR.fst.snd.snd.fst / (256 : Int) % (256 : Int), fourR.fst.snd.snd.fst /
  (65536 : Int) % (256 : Int), fourR.fst.snd.snd.fst / (16777216 : Int) % (256 : Int), xorI (1065353216 : Int) (0 : Int) % (256 : Int), xorI (1065353216 : Int) (0 : Int) / (256 :
  Int) % (256 : Int), xorI (1065353216 : Int) (0 : Int) / (65536 : Int) % (256 : Int), xorI (1065353216 : Int) (0 : Int) / (16777216 : Int) % (256 : Int), xorI (1073741824 : Int)
  (1065353216 : Int) % (256 : Int), xorI (1073741824 : Int) (1065353216 : Int) / (256 : Int) % (256 : Int), xorI (1073741824 : Int) (1065353216 : Int) / (65536 : Int) % (256 : Int),
  xorI (1073741824 : Int) (1065353216 : Int) / (16777216 : Int) % (256 : Int), xorI (0 : Int) (1073741824 : Int) % (256 : Int), xorI (0 : Int) (1073741824 : Int) / (256 : Int) %
  (256 : Int), xorI (0 : Int) (1073741824 : Int) / (65536 : Int) % (256 : Int), xorI (0 : Int) (1073741824 : Int) / (16777216 : Int) % (256 : Int), xorI (1065353216 : Int) (0 : Int)
  % (256 : Int), xorI (1065353216 : Int) (0 : Int) / (256 : Int) % (256 : Int), xorI (1065353216 : Int) (0 : Int) / (65536 : Int) % (256 : Int), xorI (1065353216 : Int) (0 : Int) /
  (16777216 : Int) % (256 : Int)]).fst.fst, (decodeR [(84 : Int), (73 : Int), (76 : Int), (69 : Int), fourR.fst.fst, rootI (↑fourR.fst.snd.snd.snd.length : Int), fourR.fst.snd.fst %
  (256 : Int), fourR.fst.snd.fst / (256 : Int) % (256 : Int), fourR.fst.snd.fst / (65536 : Int) % (256 : Int), fourR.fst.snd.fst / (16777216 : Int) % (256 : Int),
  fourR.fst.snd.snd.fst % (256 : Int), fourR.fst.snd.snd.fst / (256 : Int) % (256 : Int), fourR.fst.snd.snd.fst / (65536 : Int) % (256 : Int), fourR.fst.snd.snd.fst / (16777216 :
  Int) % (256 : Int), xorI (1065353216 : Int) (0 : Int) % (256 : Int), xorI (1065353216 : Int) (0 : Int) / (256 : Int) % (256 : Int), xorI (1065353216 : Int) (0 : Int) / (65536 :
  Int) % (256 : Int), xorI (1065353216 : Int) (0 : Int) / (16777216 : Int) % (256 : Int), xorI (1073741824 : Int) (1065353216 : Int) % (256 : Int), xorI (1073741824 : Int)
  (1065353216 : Int) / (256 : Int) % (256 : Int), xorI (1073741824 : Int) (1065353216 : Int) / (65536 : Int) % (256 : Int), xorI (1073741824 : Int) (1065353216 : Int) / (16777216 :
  Int) % (256 : Int), xorI (0 : Int) (1073741824 : Int) % (256 : Int), xorI (0 : Int) (1073741824 : Int) / (256 : Int) % (256 : Int), xorI (0 : Int) (1073741824 : Int) / (65536 :
  Int) % (256 : Int), xorI (0 : Int) (1073741824 : Int) / (16777216 : Int) % (256 : Int), xorI (1065353216 : Int) (0 : Int) % (256 : Int), xorI (1065353216 : Int) (0 : Int) / (256 :
  Int) % (256 : Int), xorI (1065353216 : Int) (0 : Int) / (65536 : Int) % (256 : Int), xorI (1065353216 : Int) (0 : Int) / (16777216 : Int) % (256 : Int)]).fst.snd.fst, (decodeR
  [(84 : Int), (73 : Int), (76 : Int), (69 : Int), fourR.fst.fst, rootI (↑fourR.fst.snd.snd.snd.length : Int), fourR.fst.snd.fst % (256 : Int), fourR.fst.snd.fst / (256 : Int) %
  (256 : Int), fourR.fst.snd.fst / (65536 : Int) % (256 : Int), fourR.fst.snd.fst / (16777216 : Int) % (256 : Int), fourR.fst.snd.snd.fst % (256 : Int), fourR.fst.snd.snd.fst / (256
  : Int) % (256 : Int), fourR.fst.snd.snd.fst / (65536 : Int) % (256 : Int), fourR.fst.snd.snd.fst / (16777216 : Int) % (256 : Int), xorI (1065353216 : Int) (0 : Int) % (256 : Int),
  xorI (1065353216 : Int) (0 : Int) / (256 : Int) % (256 : Int), xorI (1065353216 : Int) (0 : Int) / (65536 : Int) % (256 : Int), xorI (1065353216 : Int) (0 : Int) / (16777216 :
  Int) % (256 : Int), xorI (1073741824 : Int) (1065353216 : Int) % (256 : Int), xorI (1073741824 : Int) (1065353216 : Int) / (256 : Int) % (256 : Int), xorI (1073741824 : Int)
  (1065353216 : Int) / (65536 : Int) % (256 : Int), xorI (1073741824 : Int) (1065353216 : Int) / (16777216 : Int) % (256 : Int), xorI (0 : Int) (1073741824 : Int) % (256 : Int),
  xorI (0 : Int) (1073741824 : Int) / (256 : Int) % (256 : Int), xorI (0 : Int) (1073741824 : Int) / (65536 : Int) % (256 : Int), xorI (0 : Int) (1073741824 : Int) / (16777216 :
  Int) % (256 : Int), xorI (1065353216 : Int) (0 : Int) % (256 : Int), xorI (1065353216 : Int) (0 : Int) / (256 : Int) % (256 : Int), xorI (1065353216 : Int) (0 : Int) / (65536 :
  Int) % (256 : Int), xorI (1065353216 : Int) (0 : Int) / (16777216 : Int) % (256 : Int)]).fst.snd.snd.fst, (decodeR [(84 : Int), (73 : Int), (76 : Int), (69 : Int), fourR.fst.fst,
  rootI (↑fourR.fst.snd.snd.snd.length : Int), fourR.fst.snd.fst % (256 : Int), fourR.fst.snd.fst / (256 : Int) % (256 : Int), fourR.fst.snd.fst / (65536 : Int) % (256 : Int),
  fourR.fst.snd.fst / (16777216 : Int) % (256 : Int), fourR.fst.snd.snd.fst % (256 : Int), fourR.fst.snd.snd.fst / (256 : Int) % (256 : Int), fourR.fst.snd.snd.fst / (65536 : Int) %
  (256 : Int), fourR.fst.snd.snd.fst / (16777216 : Int) % (256 : Int), xorI (1065353216 : Int) (0 : Int) % (256 : Int), xorI (1065353216 : Int) (0 : Int) / (256 : Int) % (256 :
  Int), xorI (1065353216 : Int) (0 : Int) / (65536 : Int) % (256 : Int), xorI (1065353216 : Int) (0 : Int) / (16777216 : Int) % (256 : Int), xorI (1073741824 : Int) (1065353216 :
  Int) % (256 : Int), xorI (1073741824 : Int) (1065353216 : Int) / (256 : Int) % (256 : Int), xorI (1073741824 : Int) (1065353216 : Int) / (65536 : Int) % (256 : Int), xorI
  (1073741824 : Int) (1065353216 : Int) / (16777216 : Int) % (256 : Int), xorI (0 : Int) (1073741824 : Int) % (256 : Int), xorI (0 : Int) (1073741824 : Int) / (256 : Int) % (256 :
  Int), xorI (0 : Int) (1073741824 : Int) / (65536 : Int) % (256 : Int), xorI (0 : Int) (1073741824 : Int) / (16777216 : Int) % (256 : Int), xorI (1065353216 : Int) (0 : Int) % (256
  : Int), xorI (1065353216 : Int) (0 : Int) / (256 : Int) % (256 : Int), xorI (1065353216 : Int) (0 : Int) / (65536 : Int) % (256 : Int), xorI (1065353216 : Int) (0 : Int) /
  (16777216 : Int) % (256 : Int)]).fst.snd.snd.snd) fourR.fst).fst → Br a (∀ (a : Bool), a = ((decodeR []).snd.fst == (31 : Int)) → Br a (∀ (a : Bool), a = ((tilesR (1 : Int) ([(0 :
  Nat), (0 : Nat), (0 : Nat), (0 : Nat), (0 : Nat), (0 : Nat)], [(1431655765 : Int), (0 : Int), (0 : Int), (0 : Int), (0 : Int), (0 : Int)], [(0 : Int), (0 : Int), (0 : Int), (0 :
  Int), (0 : Int), (0 : Int)], [(0 : Nat), (0 : Nat), (0 : Nat), (0 : Nat), (0 : Nat), (0 : Nat), (0 : Nat), (0 : Nat), (0 : Nat), (0 : Nat), (0 : Nat), (0 : Nat)], (0 : Int), (0 :
  Int))).snd.fst == (0 : Int)) → Br a (∀ (a : Bool), a = ((↑(tilesR (1 : Int) ([(0 : Nat), (0 : Nat), (0 : Nat), (0 : Nat), (0 : Nat), (0 : Nat)], [(1431655765 : Int), (0 : Int), (0
  : Int), (0 : Int), (0 : Int), (0 : Int)], [(0 : Int), (0 : Int), (0 : Int), (0 : Int), (0 : Int), (0 : Int)], [(0 : Nat), (0 : Nat), (0 : Nat), (0 : Nat), (0 : Nat), (0 : Nat), (0
  : Nat), (0 : Nat), (0 : Nat), (0 : Nat), (0 : Nat), (0 : Nat)], (0 : Int), (0 : Int))).fst.length : Int) == (6 : Int)) → Br a (∃ (h : (0 : Int) ≤ (0 : Int) ∧ (0 : Int) < (↑(tilesR
  (1 : Int) ([(0 : Nat), (0 : Nat), (0 : Nat), (0 : Nat), (0 : Nat), (0 : Nat)], [(1431655765 : Int), (0 : Int), (0 : Int), (0 : Int), (0 : Int), (0 : Int)], [(0 : Int), (0 : Int),
  (0 : Int), (0 : Int), (0 : Int), (0 : Int)], [(0 : Nat), (0 : Nat), (0 : Nat), (0 : Nat), (0 : Nat), (0 : Nat), (0 : Nat), (0 : Nat), (0 : Nat), (0 : Nat), (0 : Nat), (0 : Nat)],
  (0 : Int), (0 : Int))).fst.length : Int)), ∀ (a : Bool), a = (((tilesR (1 : Int) ([(0 : Nat), (0 : Nat), (0 : Nat), (0 : Nat), (0 : Nat), (0 : Nat)], [(1431655765 : Int), (0 :
  Int), (0 : Int), (0 : Int), (0 : Int), (0 : Int)], [(0 : Int), (0 : Int), (0 : Int), (0 : Int), (0 : Int), (0 : Int)], [(0 : Nat), (0 : Nat), (0 : Nat), (0 : Nat), (0 : Nat), (0 :
  Nat), (0 : Nat), (0 : Nat), (0 : Nat), (0 : Nat), (0 : Nat), (0 : Nat)], (0 : Int), (0 : Int))).fst.getD (Int.toNat (0 : Int)) kTile.dflt).snd.snd.fst == (1065353216 : Int)) →
  post (a, ())) (post (Bool.false, ()))) (post (Bool.false, ()))) (post (Bool.false, ()))) (post (Bool.false, ()))) (post (Bool.false, ()))) (post (Bool.false, ()))) (post
  (Bool.false, ()))
theorem Lx_law24_awake  : Fx_law24_awake   (fun r => r = trueR0) := by
  refine ⟨trivial, ⟨⟨by decide, by decide⟩, ⟨by decide, by decide⟩, ⟨by decide, by decide⟩, ?_⟩, ?_, (fun x hx => by cases hx), ⟨by decide, by decide, by decide⟩, ⟨by decide, by decide, by decide⟩, ⟨by decide, by decide, by decide⟩, ?_, ?_⟩
  · intro x hx
    have : fourR.1.2.2.2 = [1065353216, 1073741824, 0, 1065353216] := rfl
    rw [this] at hx
    have q : ∀ x ∈ ([1065353216, 1073741824, 0, 1065353216] : List Int), 0 ≤ x ∧ x < 4294967296 := by decide
    exact q x hx
  · unfold BLs U8; decide +kernel
  · refine ⟨⟨by decide, by decide⟩, ?_, ?_, ?_, ?_, ⟨by decide, by decide⟩, ⟨by decide, by decide⟩⟩
    · unfold WL W64; decide
    · unfold I64; decide
    · unfold I64; decide
    · unfold WL W64; decide
  refine named_true (by decide +kernel) (named_true (by decide +kernel) (named_true (by decide +kernel) ⟨trivial, trivial, named_true (by decide +kernel) (named_true (by decide +kernel) (named_true (by decide +kernel) (named_true (by decide +kernel) ⟨by decide +kernel, ?_⟩)))⟩))
  intro a ha
  exact congrArg r1 (ha.trans (by decide +kernel))
end Go.Lift

/- Own work. -/
set_option linter.unusedVariables false
set_option linter.unusedSimpArgs false
namespace Go.Lift
def Fx_tile_root := fun (a : Int) (post : Int × Unit → Prop) => HIs [] [] ∧ ∃ (I : Int × Unit → Unit → Prop), ∃ (μ : Int × Unit → Unit → Nat), I ((1 : Int), ()) () ∧ ∀ (x : Int ×
  Unit) (y : Unit), I x y → ∀ (a_1 : Bool), a_1 = decide (x.fst ≤ (32 : Int)) → Br a_1 (∀ (a_2 : Bool), a_2 = (IntKind.i64.wrap (x.fst * x.fst) == a) → Br a_2 (post (x.fst, ()))
  (HIs [] [] ∧ I (IntKind.i64.wrap (x.fst + (1 : Int)), ()) () ∧ μ (IntKind.i64.wrap (x.fst + (1 : Int)), ()) () < μ x y)) (post ((0 : Int), ()))
theorem Lx_tile_root (a : Int) (h : I64 a) : Fx_tile_root  a (fun r => r = rootR a) := by
  refine ⟨rfl, fun x _ => ∃ k : Nat, x.1 = k ∧ 1 ≤ k ∧ k ≤ 33 ∧ rootI a = rootN a (33 - k) k, fun x _ => 33 - x.1.toNat, ⟨1, rfl, by omega, by omega, rfl⟩, ?_⟩
  rintro ⟨_, ⟨⟩⟩ _ ⟨k, rfl, k1, k2, hk⟩
  dsimp only
  rintro _ rfl
  refine Br.intro (fun e => ?_) fun e => ?_
  · have e := of_decide_eq_true e
    have q : k * k ≤ 32 * 32 := Nat.mul_le_mul (by omega) (by omega)
    have wk : IntKind.i64.wrap ((k : Int) * k) = (k : Int) * k := by
      rw [← Int.natCast_mul]; exact wi ⟨by omega, by omega⟩
    obtain ⟨m, hm⟩ : ∃ m, 33 - k = m + 1 := ⟨32 - k, by omega⟩
    rw [hm, rootN_succ] at hk
    rw [wk]
    rintro _ rfl
    refine Br.intro (fun f => ?_) fun f => ?_
    · have f : (k : Int) * k = a := eq_of_beq f
      rw [if_pos f] at hk
      exact congrArg r1 hk.symm
    · have f : ¬ (k : Int) * k = a := by intro q; rw [q] at f; simp at f
      rw [if_neg f] at hk
      have ws : IntKind.i64.wrap ((k : Int) + 1) = ((k + 1 : Nat) : Int) := wi_succ (n := 34) (by omega) (by omega)
      rw [ws]
      exact ⟨rfl, ⟨k + 1, rfl, by omega, by omega, by rw [hk, show 33 - (k + 1) = m by omega]⟩, by omega⟩
  · have e := of_decide_eq_false e
    refine congrArg r1 ?_
    rw [hk, show 33 - k = 0 by omega]; rfl
def Fx_tile_bounds := fun (a : List Int) (post : Int × Int × Unit → Prop) => ∃ (h : (0 : Int) ≤ (0 : Int) ∧ (0 : Int) < (↑a.length : Int)), ∃ (h : (0 : Int) ≤ (0 : Int) ∧ (0 : Int)
  < (↑a.length : Int)), HIs [] [] ∧ ∃ (I : Int × Int × Int × Unit → Unit → Prop), ∃ (μ : Int × Int × Int × Unit → Unit → Nat), I (a.getD (Int.toNat (0 : Int)) (0 : Int), a.getD
  (Int.toNat (0 : Int)) (0 : Int), (0 : Int), ()) () ∧ ∀ (x : Int × Int × Int × Unit) (y : Unit), I x y → ∀ (a_1 : Bool), a_1 = decide (x.snd.snd.fst < (↑a.length : Int)) → Br a_1
  (∃ (h : (0 : Int) ≤ x.snd.snd.fst ∧ x.snd.snd.fst < (↑a.length : Int)), HIs [] [] ∧ I (imin x.fst (a.getD x.snd.snd.fst.toNat (0 : Int)), imax x.snd.fst (a.getD
  x.snd.snd.fst.toNat (0 : Int)), IntKind.i64.wrap (x.snd.snd.fst + (1 : Int)), ()) () ∧ μ (imin x.fst (a.getD x.snd.snd.fst.toNat (0 : Int)), imax x.snd.fst (a.getD
  x.snd.snd.fst.toNat (0 : Int)), IntKind.i64.wrap (x.snd.snd.fst + (1 : Int)), ()) () < μ x y) (post (x.fst, x.snd.fst, ()))
theorem Lx_tile_bounds (a : List Int) (h : NE a) (w : KS.wf [.slice (.int .u32)] (a, ())) : Fx_tile_bounds  a (fun r => r = endsR a) := by
  have hl : a.length ≤ maxN := w.1.1
  unfold maxN at hl
  have h : 0 < a.length := h
  refine ⟨⟨by omega, by omega⟩, ⟨by omega, by omega⟩, rfl, fun x _ => ∃ i : Nat, x.2.2.1 = i ∧ i ≤ a.length ∧ x.1 = (a.take i).foldl imin (a.getD 0 0) ∧ x.2.1 = (a.take i).foldl imax (a.getD 0 0), fun x _ => a.length - x.2.2.1.toNat, ⟨0, rfl, by omega, rfl, rfl⟩, ?_⟩
  rintro ⟨_, _, _, ⟨⟩⟩ _ ⟨i, rfl, hil, rfl, rfl⟩
  dsimp only
  rintro _ rfl
  refine Br.intro (fun e => ?_) fun e => ?_
  · have e : i < a.length := by have := of_decide_eq_true e; omega
    rw [Int.toNat_natCast, wi_succ e (by omega)]
    exact ⟨⟨by omega, by omega⟩, rfl, ⟨i + 1, rfl, by omega, (foldl_step imin e 0 _).symm, (foldl_step imax e 0 _).symm⟩, by omega⟩
  · have e : ¬ i < a.length := by have := of_decide_eq_false e; omega
    rw [List.take_of_length_le (by omega)]; rfl
def Fx_tile_good := fun (ty25 : Nat) (a : Int × Int × Int × List Int) (post : Bool × Unit → Prop) => HIs [HObj.box Md.rw ty25 [SV.val (Go.Value.int IntKind.i64 a.fst), SV.val
  (Go.Value.int IntKind.u32 a.snd.fst), SV.val (Go.Value.int IntKind.u32 a.snd.snd.fst), SV.data (K.int IntKind.u32).slice a.snd.snd.snd]] [HObj.box Md.rw ty25 [SV.val (Go.Value.int
  IntKind.i64 a.fst), SV.val (Go.Value.int IntKind.u32 a.snd.fst), SV.val (Go.Value.int IntKind.u32 a.snd.snd.fst), SV.data (K.int IntKind.u32).slice a.snd.snd.snd]] ∧ ∃ (I : Int ×
  Unit → Unit → Prop), ∃ (μ : Int × Unit → Unit → Nat), I ((0 : Int), ()) () ∧ ∀ (x : Int × Unit) (y : Unit), I x y → ∀ (a_1 : Bool), a_1 = decide (x.fst < (↑a.snd.snd.snd.length :
  Int)) → Br a_1 (∃ (h : (0 : Int) ≤ x.fst ∧ x.fst < (↑a.snd.snd.snd.length : Int)), ∀ (a_2 : Bool), a_2 = decide (a.snd.snd.snd.getD x.fst.toNat (0 : Int) ≥ (2139095040 : Int)) →
  Br a_2 (post (Bool.false, ())) (HIs [HObj.box Md.rw ty25 [SV.val (Go.Value.int IntKind.i64 a.fst), SV.val (Go.Value.int IntKind.u32 a.snd.fst), SV.val (Go.Value.int IntKind.u32
  a.snd.snd.fst), SV.data (K.int IntKind.u32).slice a.snd.snd.snd]] [HObj.box Md.rw ty25 [SV.val (Go.Value.int IntKind.i64 a.fst), SV.val (Go.Value.int IntKind.u32 a.snd.fst),
  SV.val (Go.Value.int IntKind.u32 a.snd.snd.fst), SV.data (K.int IntKind.u32).slice a.snd.snd.snd]] ∧ I (IntKind.i64.wrap (x.fst + (1 : Int)), ()) () ∧ μ (IntKind.i64.wrap (x.fst +
  (1 : Int)), ()) () < μ x y)) (∃ (h : NE a.snd.snd.snd), ∀ (a_2 : Bool), a_2 = (a.snd.fst == (endsR a.snd.snd.snd).fst) → Br a_2 (∀ (a_3 : Bool), a_3 = (a.snd.snd.fst == (endsR
  a.snd.snd.snd).snd.fst) → post (a_3, ())) (post (Bool.false, ())))
theorem Lx_tile_good (ty0 : Nat) (a : Int × Int × Int × List Int) (h : NET a) (w : KS.wf [kTile] (a, ())) : Fx_tile_good ty0 a (fun r => r = lowR a) := by
  have hl : a.2.2.2.length ≤ maxN := w.1.2.2.2.1
  unfold maxN at hl
  have h : 0 < a.2.2.2.length := h
  have no : (a.2.2.2.all fun x => decide (x < 2139095040)) = false → (false, ()) = lowR a := by
    intro q; refine congrArg r1 ?_; unfold lowT; rw [q]; rfl
  refine ⟨rfl, fun x _ => ∃ i : Nat, x.1 = i ∧ i ≤ a.2.2.2.length ∧ ((a.2.2.2.take i).all fun x => decide (x < 2139095040)) = true, fun x _ => a.2.2.2.length - x.1.toNat, ⟨0, rfl, by omega, rfl⟩, ?_⟩
  rintro ⟨_, ⟨⟩⟩ _ ⟨i, rfl, hil, hi⟩
  dsimp only
  rintro _ rfl
  refine Br.intro (fun e => ?_) fun e => ?_
  · have e : i < a.2.2.2.length := by have := of_decide_eq_true e; omega
    refine ⟨⟨by omega, by omega⟩, ?_⟩
    rw [Int.toNat_natCast, wi_succ e (by omega)]
    rintro _ rfl
    refine Br.intro (fun f => no ?_) fun f => ?_
    · have f := of_decide_eq_true f
      rw [Bool.eq_false_iff]
      intro q
      rw [List.all_eq_true] at q
      have := of_decide_eq_true (q _ (getD_mem e 0))
      omega
    · have f := of_decide_eq_false f
      exact ⟨rfl, ⟨i + 1, rfl, by omega, by rw [all_step _ e 0, hi, decide_eq_true (by omega)]; rfl⟩, by omega⟩
  · have e : ¬ i < a.2.2.2.length := by have := of_decide_eq_false e; omega
    rw [List.take_of_length_le (by omega)] at hi
    have be : ∀ x y : Int, (x == y) = decide (x = y) := fun x y => by by_cases q : x = y <;> simp [q]
    refine ⟨h, ?_⟩
    rintro _ rfl
    refine Br.intro (fun f => ?_) fun f => ?_
    · rintro _ rfl
      refine congrArg r1 ?_
      have f : (a.2.1 == minL a.2.2.2) = true := f
      show (a.2.2.1 == maxL a.2.2.2) = lowT a
      unfold lowT
      rw [be] at f ⊢
      rw [hi, f]; rfl
    · refine congrArg r1 ?_
      have f : (a.2.1 == minL a.2.2.2) = false := f
      rw [be] at f
      unfold lowT
      rw [hi, f]; rfl
def Fx_tile_get := fun (a : List Int) (post : Int × Unit → Prop) => ∃ (h : (0 : Int) ≤ (0 : Int) ∧ (0 : Int) < (↑a.length : Int)), ∃ (h : (0 : Int) ≤ (1 : Int) ∧ (1 : Int) <
  (↑a.length : Int)), ∃ (h : (0 : Int) ≤ (8 : Int)), ∃ (h : (0 : Int) ≤ (2 : Int) ∧ (2 : Int) < (↑a.length : Int)), ∃ (h : (0 : Int) ≤ (16 : Int)), ∃ (h : (0 : Int) ≤ (3 : Int) ∧ (3
  : Int) < (↑a.length : Int)), ∃ (h : (0 : Int) ≤ (24 : Int)), post (Go.bits Go.BinOp.or IntKind.u32 (Go.bits Go.BinOp.or IntKind.u32 (Go.bits Go.BinOp.or IntKind.u32
  (IntKind.u32.wrap (a.getD (Int.toNat (0 : Int)) (0 : Int))) (IntKind.u32.wrap (IntKind.u32.wrap (a.getD (Int.toNat (1 : Int)) (0 : Int)) * (2 : Int) ^ Min.min (Int.toNat (8 :
  Int)) IntKind.u32.bits))) (IntKind.u32.wrap (IntKind.u32.wrap (a.getD (Int.toNat (2 : Int)) (0 : Int)) * (2 : Int) ^ Min.min (Int.toNat (16 : Int)) IntKind.u32.bits)))
  (IntKind.u32.wrap (IntKind.u32.wrap (a.getD (Int.toNat (3 : Int)) (0 : Int)) * (2 : Int) ^ Min.min (Int.toNat (24 : Int)) IntKind.u32.bits)), ())
theorem Lx_tile_get (a : List Int) (h : WNum4 a) : Fx_tile_get  a (fun r => r = num4R a) := by
  obtain ⟨hb, hl⟩ := h
  refine ⟨⟨by omega, by omega⟩, ⟨by omega, by omega⟩, by decide, ⟨by omega, by omega⟩, by decide, ⟨by omega, by omega⟩, by decide, congrArg r1 ?_⟩
  exact num4_or (hb _ (getD_mem (show 0 < a.length by omega) 0)) (hb _ (getD_mem (show 1 < a.length by omega) 0)) (hb _ (getD_mem (show 2 < a.length by omega) 0)) (hb _ (getD_mem (show 3 < a.length by omega) 0))
def Fx_tile_Encode := fun (ty25 ty5 : Nat) (a : Int × Int × Int × List Int) (post : List Int × Int × Unit → Prop) => ∃ (h : I64 (↑a.snd.snd.snd.length : Int)), ∀ (a_1 : Bool), a_1 =
  decide (a.fst < (0 : Int)) → Br a_1 (post ([], (1 : Int), ())) (∀ (a_2 : Bool), a_2 = decide (a.fst ≥ (6 : Int)) → Br a_2 (post ([], (1 : Int), ())) (∀ (a_3 : Bool), a_3 = ((rootR
  (↑a.snd.snd.snd.length : Int)).fst == (0 : Int)) → Br a_3 (post ([], (1 : Int), ())) (∃ (h : NET (a.fst, a.snd.fst, a.snd.snd.fst, a.snd.snd.snd)), ∀ (a_4 : Bool), a_4 = (lowR
  (a.fst, a.snd.fst, a.snd.snd.fst, a.snd.snd.snd)).fst → Br (!a_4) (post ([], (1 : Int), ())) (∃ (h : (0 : Int) ≤ IntKind.i64.wrap ((14 : Int) + IntKind.i64.wrap ((4 : Int) *
  (↑a.snd.snd.snd.length : Int))) ∧ IntKind.i64.wrap ((14 : Int) + IntKind.i64.wrap ((4 : Int) * (↑a.snd.snd.snd.length : Int))) ≤ IntKind.i64.wrap ((14 : Int) + IntKind.i64.wrap
  ((4 : Int) * (↑a.snd.snd.snd.length : Int))) ∧ IntKind.i64.wrap ((14 : Int) + IntKind.i64.wrap ((4 : Int) * (↑a.snd.snd.snd.length : Int))) * (↑(1 : Nat) : Int) ≤ (281474976710656
  : Int)), ∃ (h : (strBytes { data := #[(84 : UInt8), (73 : UInt8), (76 : UInt8), (69 : UInt8)] }).length ≤ (IntKind.i64.wrap ((14 : Int) + IntKind.i64.wrap ((4 : Int) *
  (↑a.snd.snd.snd.length : Int)))).toNat), ∃ (h : (0 : Int) ≤ (4 : Int) ∧ (4 : Int) < (↑(IntKind.i64.wrap ((14 : Int) + IntKind.i64.wrap ((4 : Int) * (↑a.snd.snd.snd.length :
  Int)))).toNat : Int)), ∃ (h : (0 : Int) ≤ (5 : Int) ∧ (5 : Int) < (↑(IntKind.i64.wrap ((14 : Int) + IntKind.i64.wrap ((4 : Int) * (↑a.snd.snd.snd.length : Int)))).toNat : Int)), ∃
  (h : (0 : Int) ≤ (6 : Int) ∧ (6 : Int) ≤ (↑(IntKind.i64.wrap ((14 : Int) + IntKind.i64.wrap ((4 : Int) * (↑a.snd.snd.snd.length : Int)))).toNat : Int) ∧ (↑(IntKind.i64.wrap ((14 :
  Int) + IntKind.i64.wrap ((4 : Int) * (↑a.snd.snd.snd.length : Int)))).toNat : Int) ≤ (↑(IntKind.i64.wrap ((14 : Int) + IntKind.i64.wrap ((4 : Int) * (↑a.snd.snd.snd.length :
  Int)))).toNat : Int)), ∃ (h : (0 : Int) ≤ (8 : Int)), ∃ (h : (0 : Int) ≤ (16 : Int)), ∃ (h : (0 : Int) ≤ (24 : Int)), ∃ (h : (0 : Int) ≤ (0 : Int) ∧ (0 : Int) <
  (↑((↑(IntKind.i64.wrap ((14 : Int) + IntKind.i64.wrap ((4 : Int) * (↑a.snd.snd.snd.length : Int)))).toNat : Int) - (6 : Int)).toNat : Int)), ∃ (h : (0 : Int) ≤ (1 : Int) ∧ (1 :
  Int) < (↑((↑(IntKind.i64.wrap ((14 : Int) + IntKind.i64.wrap ((4 : Int) * (↑a.snd.snd.snd.length : Int)))).toNat : Int) - (6 : Int)).toNat : Int)), ∃ (h : (0 : Int) ≤ (2 : Int) ∧
  (2 : Int) < (↑((↑(IntKind.i64.wrap ((14 : Int) + IntKind.i64.wrap ((4 : Int) * (↑a.snd.snd.snd.length : Int)))).toNat : Int) - (6 : Int)).toNat : Int)), ∃ (h : (0 : Int) ≤ (3 :
  Int) ∧ (3 : Int) < (↑((↑(IntKind.i64.wrap ((14 : Int) + IntKind.i64.wrap ((4 : Int) * (↑a.snd.snd.snd.length : Int)))).toNat : Int) - (6 : Int)).toNat : Int)), ∃ (h : (0 : Int) ≤
  (10 : Int) ∧ (10 : Int) ≤ (↑(IntKind.i64.wrap ((14 : Int) + IntKind.i64.wrap ((4 : Int) * (↑a.snd.snd.snd.length : Int)))).toNat : Int) ∧ (↑(IntKind.i64.wrap ((14 : Int) +
  IntKind.i64.wrap ((4 : Int) * (↑a.snd.snd.snd.length : Int)))).toNat : Int) ≤ (↑(IntKind.i64.wrap ((14 : Int) + IntKind.i64.wrap ((4 : Int) * (↑a.snd.snd.snd.length :
  Int)))).toNat : Int)), ∃ (h : (0 : Int) ≤ (8 : Int)), ∃ (h : (0 : Int) ≤ (16 : Int)), ∃ (h : (0 : Int) ≤ (24 : Int)), ∃ (h : (0 : Int) ≤ (0 : Int) ∧ (0 : Int) <
  (↑((↑(IntKind.i64.wrap ((14 : Int) + IntKind.i64.wrap ((4 : Int) * (↑a.snd.snd.snd.length : Int)))).toNat : Int) - (10 : Int)).toNat : Int)), ∃ (h : (0 : Int) ≤ (1 : Int) ∧ (1 :
  Int) < (↑((↑(IntKind.i64.wrap ((14 : Int) + IntKind.i64.wrap ((4 : Int) * (↑a.snd.snd.snd.length : Int)))).toNat : Int) - (10 : Int)).toNat : Int)), ∃ (h : (0 : Int) ≤ (2 : Int) ∧
  (2 : Int) < (↑((↑(IntKind.i64.wrap ((14 : Int) + IntKind.i64.wrap ((4 : Int) * (↑a.snd.snd.snd.length : Int)))).toNat : Int) - (10 : Int)).toNat : Int)), ∃ (h : (0 : Int) ≤ (3 :
  Int) ∧ (3 : Int) < (↑((↑(IntKind.i64.wrap ((14 : Int) + IntKind.i64.wrap ((4 : Int) * (↑a.snd.snd.snd.length : Int)))).toNat : Int) - (10 : Int)).toNat : Int)), HIs [HObj.box
  Md.rw ty25 [SV.val (Go.Value.int IntKind.i64 a.fst), SV.val (Go.Value.int IntKind.u32 a.snd.fst), SV.val (Go.Value.int IntKind.u32 a.snd.snd.fst), SV.data (K.int
  IntKind.u32).slice a.snd.snd.snd], HObj.row Md.rw ty5 (K.int IntKind.u8) ((((((((((([] ++ strBytes { data := #[(84 : UInt8), (73 : UInt8), (76 : UInt8), (69 : UInt8)] } ++
  List.drop ((0 : Nat) + (strBytes { data := #[(84 : UInt8), (73 : UInt8), (76 : UInt8), (69 : UInt8)] }).length) (List.replicate (IntKind.i64.wrap ((14 : Int) + IntKind.i64.wrap
  ((4 : Int) * (↑a.snd.snd.snd.length : Int)))).toNat (0 : Int))).set ((0 : Nat) + Int.toNat (4 : Int)) (IntKind.u8.wrap a.fst)).set ((0 : Nat) + Int.toNat (5 : Int))
  (IntKind.u8.wrap (rootR (↑a.snd.snd.snd.length : Int)).fst)).set ((0 : Nat) + Int.toNat (6 : Int) + Int.toNat (0 : Int)) (IntKind.u8.wrap a.snd.fst)).set ((0 : Nat) + Int.toNat (6
  : Int) + Int.toNat (1 : Int)) (IntKind.u8.wrap (a.snd.fst.fdiv ((2 : Int) ^ Min.min (Int.toNat (8 : Int)) IntKind.u32.bits)))).set ((0 : Nat) + Int.toNat (6 : Int) + Int.toNat (2
  : Int)) (IntKind.u8.wrap (a.snd.fst.fdiv ((2 : Int) ^ Min.min (Int.toNat (16 : Int)) IntKind.u32.bits)))).set ((0 : Nat) + Int.toNat (6 : Int) + Int.toNat (3 : Int))
  (IntKind.u8.wrap (a.snd.fst.fdiv ((2 : Int) ^ Min.min (Int.toNat (24 : Int)) IntKind.u32.bits)))).set ((0 : Nat) + Int.toNat (10 : Int) + Int.toNat (0 : Int)) (IntKind.u8.wrap
  a.snd.snd.fst)).set ((0 : Nat) + Int.toNat (10 : Int) + Int.toNat (1 : Int)) (IntKind.u8.wrap (a.snd.snd.fst.fdiv ((2 : Int) ^ Min.min (Int.toNat (8 : Int))
  IntKind.u32.bits)))).set ((0 : Nat) + Int.toNat (10 : Int) + Int.toNat (2 : Int)) (IntKind.u8.wrap (a.snd.snd.fst.fdiv ((2 : Int) ^ Min.min (Int.toNat (16 : Int))
  IntKind.u32.bits)))).set ((0 : Nat) + Int.toNat (10 : Int) + Int.toNat (3 : Int)) (IntKind.u8.wrap (a.snd.snd.fst.fdiv ((2 : Int) ^ Min.min (Int.toNat (24 : Int))
  IntKind.u32.bits))))] [HObj.box Md.rw ty25 [SV.val (Go.Value.int IntKind.i64 a.fst), SV.val (Go.Value.int IntKind.u32 a.snd.fst), SV.val (Go.Value.int IntKind.u32 a.snd.snd.fst),
  SV.data (K.int IntKind.u32).slice a.snd.snd.snd], HObj.row Md.rw ty5 (K.int IntKind.u8) ((((((((((([] ++ strBytes { data := #[(84 : UInt8), (73 : UInt8), (76 : UInt8), (69 :
  UInt8)] } ++ List.drop ((0 : Nat) + (strBytes { data := #[(84 : UInt8), (73 : UInt8), (76 : UInt8), (69 : UInt8)] }).length) (List.replicate (IntKind.i64.wrap ((14 : Int) +
  IntKind.i64.wrap ((4 : Int) * (↑a.snd.snd.snd.length : Int)))).toNat (0 : Int))).set ((0 : Nat) + Int.toNat (4 : Int)) (IntKind.u8.wrap a.fst)).set ((0 : Nat) + Int.toNat (5 :
  Int)) (IntKind.u8.wrap (rootR (↑a.snd.snd.snd.length : Int)).fst)).set ((0 : Nat) + Int.toNat (6 : Int) + Int.toNat (0 : Int)) (IntKind.u8.wrap a.snd.fst)).set ((0 : Nat) +
  Int.toNat (6 : Int) + Int.toNat (1 : Int)) (IntKind.u8.wrap (a.snd.fst.fdiv ((2 : Int) ^ Min.min (Int.toNat (8 : Int)) IntKind.u32.bits)))).set ((0 : Nat) + Int.toNat (6 : Int) +
  Int.toNat (2 : Int)) (IntKind.u8.wrap (a.snd.fst.fdiv ((2 : Int) ^ Min.min (Int.toNat (16 : Int)) IntKind.u32.bits)))).set ((0 : Nat) + Int.toNat (6 : Int) + Int.toNat (3 : Int))
  (IntKind.u8.wrap (a.snd.fst.fdiv ((2 : Int) ^ Min.min (Int.toNat (24 : Int)) IntKind.u32.bits)))).set ((0 : Nat) + Int.toNat (10 : Int) + Int.toNat (0 : Int)) (IntKind.u8.wrap
  a.snd.snd.fst)).set ((0 : Nat) + Int.toNat (10 : Int) + Int.toNat (1 : Int)) (IntKind.u8.wrap (a.snd.snd.fst.fdiv ((2 : Int) ^ Min.min (Int.toNat (8 : Int))
  IntKind.u32.bits)))).set ((0 : Nat) + Int.toNat (10 : Int) + Int.toNat (2 : Int)) (IntKind.u8.wrap (a.snd.snd.fst.fdiv ((2 : Int) ^ Min.min (Int.toNat (16 : Int))
  IntKind.u32.bits)))).set ((0 : Nat) + Int.toNat (10 : Int) + Int.toNat (3 : Int)) (IntKind.u8.wrap (a.snd.snd.fst.fdiv ((2 : Int) ^ Min.min (Int.toNat (24 : Int))
  IntKind.u32.bits))))] ∧ ∃ (I : Int × Int × Unit → List Int × Unit → Prop), ∃ (μ : Int × Int × Unit → List Int × Unit → Nat), I ((0 : Int), (0 : Int), ()) ((((((((((([] ++ strBytes
  { data := #[(84 : UInt8), (73 : UInt8), (76 : UInt8), (69 : UInt8)] } ++ List.drop ((0 : Nat) + (strBytes { data := #[(84 : UInt8), (73 : UInt8), (76 : UInt8), (69 : UInt8)]
  }).length) (List.replicate (IntKind.i64.wrap ((14 : Int) + IntKind.i64.wrap ((4 : Int) * (↑a.snd.snd.snd.length : Int)))).toNat (0 : Int))).set ((0 : Nat) + Int.toNat (4 : Int))
  (IntKind.u8.wrap a.fst)).set ((0 : Nat) + Int.toNat (5 : Int)) (IntKind.u8.wrap (rootR (↑a.snd.snd.snd.length : Int)).fst)).set ((0 : Nat) + Int.toNat (6 : Int) + Int.toNat (0 :
  Int)) (IntKind.u8.wrap a.snd.fst)).set ((0 : Nat) + Int.toNat (6 : Int) + Int.toNat (1 : Int)) (IntKind.u8.wrap (a.snd.fst.fdiv ((2 : Int) ^ Min.min (Int.toNat (8 : Int))
  IntKind.u32.bits)))).set ((0 : Nat) + Int.toNat (6 : Int) + Int.toNat (2 : Int)) (IntKind.u8.wrap (a.snd.fst.fdiv ((2 : Int) ^ Min.min (Int.toNat (16 : Int))
  IntKind.u32.bits)))).set ((0 : Nat) + Int.toNat (6 : Int) + Int.toNat (3 : Int)) (IntKind.u8.wrap (a.snd.fst.fdiv ((2 : Int) ^ Min.min (Int.toNat (24 : Int))
  IntKind.u32.bits)))).set ((0 : Nat) + Int.toNat (10 : Int) + Int.toNat (0 : Int)) (IntKind.u8.wrap a.snd.snd.fst)).set ((0 : Nat) + Int.toNat (10 : Int) + Int.toNat (1 : Int))
  (IntKind.u8.wrap (a.snd.snd.fst.fdiv ((2 : Int) ^ Min.min (Int.toNat (8 : Int)) IntKind.u32.bits)))).set ((0 : Nat) + Int.toNat (10 : Int) + Int.toNat (2 : Int)) (IntKind.u8.wrap
  (a.snd.snd.fst.fdiv ((2 : Int) ^ Min.min (Int.toNat (16 : Int)) IntKind.u32.bits)))).set ((0 : Nat) + Int.toNat (10 : Int) + Int.toNat (3 : Int)) (IntKind.u8.wrap
  (a.snd.snd.fst.fdiv ((2 : Int) ^ Min.min (Int.toNat (24 : Int)) IntKind.u32.bits))), ()) ∧ ∀ (x : Int × Int × Unit) (y : List Int × Unit), I x y → ∀ (a_5 : Bool), a_5 = decide
  (x.snd.fst < (↑a.snd.snd.snd.length : Int)) → Br a_5 (∃ (h : (0 : Int) ≤ x.snd.fst ∧ x.snd.fst < (↑a.snd.snd.snd.length : Int)), ∃ (h : (0 : Int) ≤ IntKind.i64.wrap ((14 : Int) +
  IntKind.i64.wrap ((4 : Int) * x.snd.fst)) ∧ IntKind.i64.wrap ((14 : Int) + IntKind.i64.wrap ((4 : Int) * x.snd.fst)) ≤ (↑(IntKind.i64.wrap ((14 : Int) + IntKind.i64.wrap ((4 :
  Int) * (↑a.snd.snd.snd.length : Int)))).toNat : Int) ∧ (↑(IntKind.i64.wrap ((14 : Int) + IntKind.i64.wrap ((4 : Int) * (↑a.snd.snd.snd.length : Int)))).toNat : Int) ≤
  (↑(IntKind.i64.wrap ((14 : Int) + IntKind.i64.wrap ((4 : Int) * (↑a.snd.snd.snd.length : Int)))).toNat : Int)), ∃ (h : (0 : Int) ≤ (8 : Int)), ∃ (h : (0 : Int) ≤ (16 : Int)), ∃ (h
  : (0 : Int) ≤ (24 : Int)), ∃ (h : (0 : Int) ≤ (0 : Int) ∧ (0 : Int) < (↑((↑(IntKind.i64.wrap ((14 : Int) + IntKind.i64.wrap ((4 : Int) * (↑a.snd.snd.snd.length : Int)))).toNat :
  Int) - IntKind.i64.wrap ((14 : Int) + IntKind.i64.wrap ((4 : Int) * x.snd.fst))).toNat : Int)), ∃ (h : (0 : Int) ≤ (1 : Int) ∧ (1 : Int) < (↑((↑(IntKind.i64.wrap ((14 : Int) +
  IntKind.i64.wrap ((4 : Int) * (↑a.snd.snd.snd.length : Int)))).toNat : Int) - IntKind.i64.wrap ((14 : Int) + IntKind.i64.wrap ((4 : Int) * x.snd.fst))).toNat : Int)), ∃ (h : (0 :
  Int) ≤ (2 : Int) ∧ (2 : Int) < (↑((↑(IntKind.i64.wrap ((14 : Int) + IntKind.i64.wrap ((4 : Int) * (↑a.snd.snd.snd.length : Int)))).toNat : Int) - IntKind.i64.wrap ((14 : Int) +
  IntKind.i64.wrap ((4 : Int) * x.snd.fst))).toNat : Int)), ∃ (h : (0 : Int) ≤ (3 : Int) ∧ (3 : Int) < (↑((↑(IntKind.i64.wrap ((14 : Int) + IntKind.i64.wrap ((4 : Int) *
  (↑a.snd.snd.snd.length : Int)))).toNat : Int) - IntKind.i64.wrap ((14 : Int) + IntKind.i64.wrap ((4 : Int) * x.snd.fst))).toNat : Int)), HIs [HObj.box Md.rw ty25 [SV.val
  (Go.Value.int IntKind.i64 a.fst), SV.val (Go.Value.int IntKind.u32 a.snd.fst), SV.val (Go.Value.int IntKind.u32 a.snd.snd.fst), SV.data (K.int IntKind.u32).slice a.snd.snd.snd],
  HObj.row Md.rw ty5 (K.int IntKind.u8) ((((y.fst.set ((0 : Nat) + (IntKind.i64.wrap ((14 : Int) + IntKind.i64.wrap ((4 : Int) * x.snd.fst))).toNat + Int.toNat (0 : Int))
  (IntKind.u8.wrap (Go.bits Go.BinOp.xor IntKind.u32 (a.snd.snd.snd.getD x.snd.fst.toNat (0 : Int)) x.fst))).set ((0 : Nat) + (IntKind.i64.wrap ((14 : Int) + IntKind.i64.wrap ((4 :
  Int) * x.snd.fst))).toNat + Int.toNat (1 : Int)) (IntKind.u8.wrap ((Go.bits Go.BinOp.xor IntKind.u32 (a.snd.snd.snd.getD x.snd.fst.toNat (0 : Int)) x.fst).fdiv ((2 : Int) ^
  Min.min (Int.toNat (8 : Int)) IntKind.u32.bits)))).set ((0 : Nat) + (IntKind.i64.wrap ((14 : Int) + IntKind.i64.wrap ((4 : Int) * x.snd.fst))).toNat + Int.toNat (2 : Int))
  (IntKind.u8.wrap ((Go.bits Go.BinOp.xor IntKind.u32 (a.snd.snd.snd.getD x.snd.fst.toNat (0 : Int)) x.fst).fdiv ((2 : Int) ^ Min.min (Int.toNat (16 : Int)) IntKind.u32.bits)))).set
  ((0 : Nat) + (IntKind.i64.wrap ((14 : Int) + IntKind.i64.wrap ((4 : Int) * x.snd.fst))).toNat + Int.toNat (3 : Int)) (IntKind.u8.wrap ((Go.bits Go.BinOp.xor IntKind.u32
  (a.snd.snd.snd.getD x.snd.fst.toNat (0 : Int)) x.fst).fdiv ((2 : Int) ^ Min.min (Int.toNat (24 : Int)) IntKind.u32.bits))))] [HObj.box Md.rw ty25 [SV.val (Go.Value.int IntKind.i64
  a.fst), SV.val (Go.Value.int IntKind.u32 a.snd.fst), SV.val (Go.Value.int IntKind.u32 a.snd.snd.fst), SV.data (K.int IntKind.u32).slice a.snd.snd.snd], HObj.row Md.rw ty5 (K.int
  IntKind.u8) ((((y.fst.set ((0 : Nat) + (IntKind.i64.wrap ((14 : Int) + IntKind.i64.wrap ((4 : Int) * x.snd.fst))).toNat + Int.toNat (0 : Int)) (IntKind.u8.wrap (Go.bits
  Go.BinOp.xor IntKind.u32 (a.snd.snd.snd.getD x.snd.fst.toNat (0 : Int)) x.fst))).set ((0 : Nat) + (IntKind.i64.wrap ((14 : Int) + IntKind.i64.wrap ((4 : Int) * x.snd.fst))).toNat
  + Int.toNat (1 : Int)) (IntKind.u8.wrap ((Go.bits Go.BinOp.xor IntKind.u32 (a.snd.snd.snd.getD x.snd.fst.toNat (0 : Int)) x.fst).fdiv ((2 : Int) ^ Min.min (Int.toNat (8 : Int))
  IntKind.u32.bits)))).set ((0 : Nat) + (IntKind.i64.wrap ((14 : Int) + IntKind.i64.wrap ((4 : Int) * x.snd.fst))).toNat + Int.toNat (2 : Int)) (IntKind.u8.wrap ((Go.bits
  Go.BinOp.xor IntKind.u32 (a.snd.snd.snd.getD x.snd.fst.toNat (0 : Int)) x.fst).fdiv ((2 : Int) ^ Min.min (Int.toNat (16 : Int)) IntKind.u32.bits)))).set ((0 : Nat) +
  (IntKind.i64.wrap ((14 : Int) + IntKind.i64.wrap ((4 : Int) * x.snd.fst))).toNat + Int.toNat (3 : Int)) (IntKind.u8.wrap ((Go.bits Go.BinOp.xor IntKind.u32 (a.snd.snd.snd.getD
  x.snd.fst.toNat (0 : Int)) x.fst).fdiv ((2 : Int) ^ Min.min (Int.toNat (24 : Int)) IntKind.u32.bits))))] ∧ I (a.snd.snd.snd.getD x.snd.fst.toNat (0 : Int), IntKind.i64.wrap
  (x.snd.fst + (1 : Int)), ()) ((((y.fst.set ((0 : Nat) + (IntKind.i64.wrap ((14 : Int) + IntKind.i64.wrap ((4 : Int) * x.snd.fst))).toNat + Int.toNat (0 : Int)) (IntKind.u8.wrap
  (Go.bits Go.BinOp.xor IntKind.u32 (a.snd.snd.snd.getD x.snd.fst.toNat (0 : Int)) x.fst))).set ((0 : Nat) + (IntKind.i64.wrap ((14 : Int) + IntKind.i64.wrap ((4 : Int) *
  x.snd.fst))).toNat + Int.toNat (1 : Int)) (IntKind.u8.wrap ((Go.bits Go.BinOp.xor IntKind.u32 (a.snd.snd.snd.getD x.snd.fst.toNat (0 : Int)) x.fst).fdiv ((2 : Int) ^ Min.min
  (Int.toNat (8 : Int)) IntKind.u32.bits)))).set ((0 : Nat) + (IntKind.i64.wrap ((14 : Int) + IntKind.i64.wrap ((4 : Int) * x.snd.fst))).toNat + Int.toNat (2 : Int))
  (IntKind.u8.wrap ((Go.bits Go.BinOp.xor IntKind.u32 (a.snd.snd.snd.getD x.snd.fst.toNat (0 : Int)) x.fst).fdiv ((2 : Int) ^ Min.min (Int.toNat (16 : Int)) IntKind.u32.bits)))).set
  ((0 : Nat) + (IntKind.i64.wrap ((14 : Int) + IntKind.i64.wrap ((4 : Int) * x.snd.fst))).toNat + Int.toNat (3 : Int)) (IntKind.u8.wrap ((Go.bits Go.BinOp.xor IntKind.u32
  (a.snd.snd.snd.getD x.snd.fst.toNat (0 : Int)) x.fst).fdiv ((2 : Int) ^ Min.min (Int.toNat (24 : Int)) IntKind.u32.bits))), ()) ∧ μ (a.snd.snd.snd.getD x.snd.fst.toNat (0 : Int),
  IntKind.i64.wrap (x.snd.fst + (1 : Int)), ()) ((((y.fst.set ((0 : Nat) + (IntKind.i64.wrap ((14 : Int) + IntKind.i64.wrap ((4 : Int) * x.snd.fst))).toNat + Int.toNat (0 : Int))
  (IntKind.u8.wrap (Go.bits Go.BinOp.xor IntKind.u32 (a.snd.snd.snd.getD x.snd.fst.toNat (0 : Int)) x.fst))).set ((0 : Nat) + (IntKind.i64.wrap ((14 : Int) + IntKind.i64.wrap ((4 :
  Int) * x.snd.fst))).toNat + Int.toNat (1 : Int)) (IntKind.u8.wrap ((Go.bits Go.BinOp.xor IntKind.u32 (a.snd.snd.snd.getD x.snd.fst.toNat (0 : Int)) x.fst).fdiv ((2 : Int) ^
  Min.min (Int.toNat (8 : Int)) IntKind.u32.bits)))).set ((0 : Nat) + (IntKind.i64.wrap ((14 : Int) + IntKind.i64.wrap ((4 : Int) * x.snd.fst))).toNat + Int.toNat (2 : Int))
  (IntKind.u8.wrap ((Go.bits Go.BinOp.xor IntKind.u32 (a.snd.snd.snd.getD x.snd.fst.toNat (0 : Int)) x.fst).fdiv ((2 : Int) ^ Min.min (Int.toNat (16 : Int)) IntKind.u32.bits)))).set
  ((0 : Nat) + (IntKind.i64.wrap ((14 : Int) + IntKind.i64.wrap ((4 : Int) * x.snd.fst))).toNat + Int.toNat (3 : Int)) (IntKind.u8.wrap ((Go.bits Go.BinOp.xor IntKind.u32
  (a.snd.snd.snd.getD x.snd.fst.toNat (0 : Int)) x.fst).fdiv ((2 : Int) ^ Min.min (Int.toNat (24 : Int)) IntKind.u32.bits))), ()) < μ x y) (((0 : Nat) = (0 : Nat) ∧
  (IntKind.i64.wrap ((14 : Int) + IntKind.i64.wrap ((4 : Int) * (↑a.snd.snd.snd.length : Int)))).toNat = y.fst.length) ∧ post (y.fst, (0 : Int), ()))))))
theorem Lx_tile_Encode (ty0 ty1 : Nat) (a : Int × Int × Int × List Int) (h : TiOk a) (w : KS.wf [kTile] (a, ())) : Fx_tile_Encode ty0 ty1 a (fun r => r = encodeR a) := by
  obtain ⟨hf, hle, hmo, hce⟩ := h
  have hl : a.2.2.2.length ≤ maxN := w.1.2.2.2.1
  unfold maxN at hl
  have fin : goodT a = false → (([] : List Int), (1 : Int), ()) = encodeR a := by intro q; unfold encodeR; rw [if_neg (by rw [q]; decide)]
  refine ⟨⟨by omega, by omega⟩, ?_⟩
  rintro _ rfl
  refine Br.intro (fun e => fin ?_) fun e => ?_
  · have e := of_decide_eq_true e
    unfold goodT; rw [decide_eq_false (by omega)]; rfl
  have e0 := of_decide_eq_false e
  rintro _ rfl
  refine Br.intro (fun e => fin ?_) fun e => ?_
  · have e := of_decide_eq_true e
    unfold goodT; rw [decide_eq_false (p := a.1 ≤ 5) (by omega), Bool.and_false]; rfl
  have e1 := of_decide_eq_false e
  rintro _ rfl
  refine Br.intro (fun e => fin ?_) fun e => ?_
  · have e : rootI a.2.2.2.length = 0 := eq_of_beq e
    unfold goodT; rw [e, decide_eq_false (p := (0 : Int) ≠ 0) (by decide), Bool.and_false]; rfl
  have e2 : rootI a.2.2.2.length ≠ 0 := by intro q; have e : (rootI a.2.2.2.length == 0) = false := e; rw [q] at e; cases e
  have hp : 0 < a.2.2.2.length := by
    obtain ⟨r1, r2, r3⟩ := root_rng e2
    have := Int.mul_le_mul r1 r1 (by omega) (by omega)
    omega
  have gl : goodT a = lowT a := by
    unfold goodT
    rw [decide_eq_true (p := 0 ≤ a.1) (by omega), decide_eq_true (p := a.1 ≤ 5) (by omega), decide_eq_true e2]; rfl
  refine ⟨hp, ?_⟩
  rintro _ rfl
  refine Br.intro (fun e => fin ?_) fun e => ?_
  · have e : (!lowT a) = true := e
    rw [gl]; simpa using e
  have g : goodT a = true := by have e : (!lowT a) = false := e; rw [gl]; simpa using e
  obtain ⟨f0, f5, r1', r2', r3', l1, l2, _⟩ := good_facts g
  have wf' : IntKind.u8.wrap a.1 = a.1 := by rw [wrap_u8]; omega
  have wr : IntKind.u8.wrap (rootR (a.2.2.2.length : Int)).1 = rootI a.2.2.2.length := by rw [wrap_u8]; show rootI a.2.2.2.length % 256 = _; omega
  have wN : IntKind.i64.wrap (14 + IntKind.i64.wrap (4 * (a.2.2.2.length : Int))) = ((14 + 4 * a.2.2.2.length : Nat) : Int) := by
    rw [wi (x := 4 * (a.2.2.2.length : Int)) ⟨by omega, by omega⟩, wi ⟨by omega, by omega⟩]; omega
  rw [wN, tileS_eq, wf', wr, put8 hle, put16 hle, put24 hle, put8 hmo, put16 hmo, put24 hmo, wrap_u8 a.2.1, wrap_u8 a.2.2.1, Int.toNat_natCast, enc_init]
  generalize hH : [84, 73, 76, 69, a.1, rootI a.2.2.2.length, a.2.1 % 256, a.2.1 / 256 % 256, a.2.1 / 65536 % 256, a.2.1 / 16777216 % 256, a.2.2.1 % 256, a.2.2.1 / 256 % 256, a.2.2.1 / 65536 % 256, a.2.2.1 / 16777216 % 256] = H
  have hHl : H.length = 14 := by rw [← hH]; rfl
  have he : encodeR a = (H ++ encL 0 a.2.2.2, 0, ()) := by
    unfold encodeR; rw [if_pos g, ← hH]; rfl
  refine ⟨⟨by omega, by omega, by omega⟩, by show 4 ≤ _; omega, ⟨by omega, by omega⟩, ⟨by omega, by omega⟩, ⟨by omega, by omega, by omega⟩, by decide, by decide, by decide, ⟨by omega, by omega⟩, ⟨by omega, by omega⟩, ⟨by omega, by omega⟩, ⟨by omega, by omega⟩, ⟨by omega, by omega, by omega⟩, by decide, by decide, by decide, ⟨by omega, by omega⟩, ⟨by omega, by omega⟩, ⟨by omega, by omega⟩, ⟨by omega, by omega⟩, rfl,
    fun x y => ∃ (i : Nat) (D : List Int), x.2.1 = i ∧ i ≤ a.2.2.2.length ∧ y.1 = H ++ D ++ List.replicate (4 * (a.2.2.2.length - i)) 0 ∧ U32 x.1 ∧ D.length = 4 * i ∧ encL 0 a.2.2.2 = D ++ encL x.1 (a.2.2.2.drop i), fun x _ => a.2.2.2.length - x.2.1.toNat, ⟨0, [], rfl, by omega, by rw [List.append_nil]; rfl, ⟨by decide, by decide⟩, rfl, rfl⟩, ?_⟩
  rintro ⟨p, _, ⟨⟩⟩ ⟨_, ⟨⟩⟩ ⟨i, D, rfl, hil, rfl, hp, hD, hE⟩
  dsimp only at hp hE ⊢
  have hxl : (H ++ D).length = 14 + 4 * i := by rw [List.length_append, hHl, hD]
  rintro _ rfl
  refine Br.intro (fun e => ?_) fun e => ?_
  · have e : i < a.2.2.2.length := by have := of_decide_eq_true e; omega
    have wP : IntKind.i64.wrap (14 + IntKind.i64.wrap (4 * (i : Int))) = ((14 + 4 * i : Nat) : Int) := by
      rw [wi (x := 4 * (i : Int)) ⟨by omega, by omega⟩, wi ⟨by omega, by omega⟩]; omega
    have hc := hce _ (getD_mem e 0)
    obtain ⟨k, hk⟩ : ∃ k, a.2.2.2.length - i = 1 + k := ⟨a.2.2.2.length - i - 1, by omega⟩
    have hk2 : a.2.2.2.length - (i + 1) = k := by omega
    rw [wP, Int.toNat_natCast i, wi_succ e (by omega), xor_u32 hc hp, put8 (xorI_rng hc hp), put16 (xorI_rng hc hp), put24 (xorI_rng hc hp), wrap_u8, hk, Nat.mul_add, enc_step hxl]
    rw [drop_step e 0, encL_cons] at hE
    refine ⟨⟨by omega, by omega⟩, ⟨by omega, by omega, by omega⟩, by decide, by decide, by decide, ⟨by omega, by omega⟩, ⟨by omega, by omega⟩, ⟨by omega, by omega⟩, ⟨by omega, by omega⟩, rfl, ⟨i + 1, D ++ bytes4 (xorI (a.2.2.2.getD i 0) p), rfl, by omega, ?_, hc, by rw [List.length_append, hD]; show _ + 4 = _; omega, by rw [hE, List.append_assoc]⟩, by omega⟩
    rw [hk2, ← List.append_assoc]; rfl
  · have e : ¬ i < a.2.2.2.length := by have := of_decide_eq_false e; omega
    rw [List.drop_eq_nil_of_le (by omega)] at hE
    have hE2 : encL 0 a.2.2.2 = D := by rw [hE]; exact List.append_nil _
    have z : a.2.2.2.length - i = 0 := by omega
    have r0 : List.replicate (4 * 0) (0 : Int) = [] := rfl
    rw [he, hE2, z, r0, List.append_nil]
    exact ⟨⟨rfl, by rw [hxl]; omega⟩, rfl⟩
def Fx_tile_Decode := fun (ty25 ty22 : Nat) (b : List Int) (post : (Int × Int × Int × List Int) × Int × Unit → Prop) => ∀ (a : Bool), a = decide ((↑b.length : Int) < (14 : Int)) →
  Br a (post (((0 : Int), (0 : Int), (0 : Int), []), (31 : Int), ())) (∃ (h : (0 : Int) ≤ (4 : Int) ∧ (4 : Int) < (↑b.length : Int)), ∃ (h : (0 : Int) ≤ (6 : Int) ∧ (6 : Int) ≤
  (↑b.length : Int) ∧ (↑b.length : Int) ≤ (↑b.length : Int)), ∃ (h : WNum4 (List.take ((↑b.length : Int) - (6 : Int)).toNat (List.drop (Int.toNat (6 : Int)) b))), ∃ (h : (0 : Int) ≤
  (10 : Int) ∧ (10 : Int) ≤ (↑b.length : Int) ∧ (↑b.length : Int) ≤ (↑b.length : Int)), ∃ (h : WNum4 (List.take ((↑b.length : Int) - (10 : Int)).toNat (List.drop (Int.toNat (10 :
  Int)) b))), ∃ (h : (0 : Int) ≤ (5 : Int) ∧ (5 : Int) < (↑b.length : Int)), ∃ (h : (0 : Int) ≤ (0 : Int) ∧ (0 : Int) ≤ (4 : Int) ∧ (4 : Int) ≤ (↑b.length : Int)), ∀ (a : Bool), (a
  = if Bool.true = Bool.true then !decide (List.map byteOf (List.take ((4 : Int) - (0 : Int)).toNat (List.drop (Int.toNat (0 : Int)) b)) = strBytes { data := #[(84 : UInt8), (73 :
  UInt8), (76 : UInt8), (69 : UInt8)] }) else decide (List.map byteOf (List.take ((4 : Int) - (0 : Int)).toNat (List.drop (Int.toNat (0 : Int)) b)) = strBytes { data := #[(84 :
  UInt8), (73 : UInt8), (76 : UInt8), (69 : UInt8)] })) → Br a (post (((0 : Int), (0 : Int), (0 : Int), []), (30 : Int), ())) (∀ (a : Bool), a = decide (IntKind.i64.wrap (b.getD
  (Int.toNat (4 : Int)) (0 : Int)) ≥ (6 : Int)) → Br a (post (((0 : Int), (0 : Int), (0 : Int), []), (30 : Int), ())) (∀ (a : Bool), a = decide (IntKind.i64.wrap (b.getD (Int.toNat
  (5 : Int)) (0 : Int)) < (1 : Int)) → Br a (post (((0 : Int), (0 : Int), (0 : Int), []), (30 : Int), ())) (∀ (a : Bool), a = decide (IntKind.i64.wrap (b.getD (Int.toNat (5 : Int))
  (0 : Int)) > (32 : Int)) → Br a (post (((0 : Int), (0 : Int), (0 : Int), []), (30 : Int), ())) (∀ (a : Bool), a = decide ((↑b.length : Int) < IntKind.i64.wrap ((14 : Int) +
  IntKind.i64.wrap (IntKind.i64.wrap ((4 : Int) * IntKind.i64.wrap (b.getD (Int.toNat (5 : Int)) (0 : Int))) * IntKind.i64.wrap (b.getD (Int.toNat (5 : Int)) (0 : Int))))) → Br a
  (post (((0 : Int), (0 : Int), (0 : Int), []), (31 : Int), ())) (∀ (a : Bool), a = decide ((↑b.length : Int) > IntKind.i64.wrap ((14 : Int) + IntKind.i64.wrap (IntKind.i64.wrap ((4
  : Int) * IntKind.i64.wrap (b.getD (Int.toNat (5 : Int)) (0 : Int))) * IntKind.i64.wrap (b.getD (Int.toNat (5 : Int)) (0 : Int))))) → Br a (post (((0 : Int), (0 : Int), (0 : Int),
  []), (3 : Int), ())) (∃ (h : (0 : Int) ≤ IntKind.i64.wrap (IntKind.i64.wrap (b.getD (Int.toNat (5 : Int)) (0 : Int)) * IntKind.i64.wrap (b.getD (Int.toNat (5 : Int)) (0 : Int))) ∧
  IntKind.i64.wrap (IntKind.i64.wrap (b.getD (Int.toNat (5 : Int)) (0 : Int)) * IntKind.i64.wrap (b.getD (Int.toNat (5 : Int)) (0 : Int))) ≤ IntKind.i64.wrap (IntKind.i64.wrap
  (b.getD (Int.toNat (5 : Int)) (0 : Int)) * IntKind.i64.wrap (b.getD (Int.toNat (5 : Int)) (0 : Int))) ∧ IntKind.i64.wrap (IntKind.i64.wrap (b.getD (Int.toNat (5 : Int)) (0 : Int))
  * IntKind.i64.wrap (b.getD (Int.toNat (5 : Int)) (0 : Int))) * (↑(4 : Nat) : Int) ≤ (281474976710656 : Int)), HIs [HObj.box Md.rw ty25 [SV.val (Go.Value.int IntKind.i64 (0 :
  Int)), SV.val (Go.Value.int IntKind.u32 (0 : Int)), SV.val (Go.Value.int IntKind.u32 (0 : Int)), SV.val (Go.Value.slice Option.none (0 : Nat) (0 : Nat))], HObj.box Md.rw ty25
  [SV.val (Go.Value.int IntKind.i64 (IntKind.i64.wrap (b.getD (Int.toNat (4 : Int)) (0 : Int)))), SV.val (Go.Value.int IntKind.u32 (num4R (List.take ((↑b.length : Int) - (6 :
  Int)).toNat (List.drop (Int.toNat (6 : Int)) b))).fst), SV.val (Go.Value.int IntKind.u32 (num4R (List.take ((↑b.length : Int) - (10 : Int)).toNat (List.drop (Int.toNat (10 : Int))
  b))).fst), SV.osl (2 : Nat) (0 : Nat) (IntKind.i64.wrap (IntKind.i64.wrap (b.getD (Int.toNat (5 : Int)) (0 : Int)) * IntKind.i64.wrap (b.getD (Int.toNat (5 : Int)) (0 :
  Int)))).toNat], HObj.row Md.rw ty22 (K.int IntKind.u32) (List.replicate (IntKind.i64.wrap (IntKind.i64.wrap (b.getD (Int.toNat (5 : Int)) (0 : Int)) * IntKind.i64.wrap (b.getD
  (Int.toNat (5 : Int)) (0 : Int)))).toNat (0 : Int))] [HObj.box Md.rw ty25 [SV.val (Go.Value.int IntKind.i64 (0 : Int)), SV.val (Go.Value.int IntKind.u32 (0 : Int)), SV.val
  (Go.Value.int IntKind.u32 (0 : Int)), SV.val (Go.Value.slice Option.none (0 : Nat) (0 : Nat))], HObj.box Md.rw ty25 [SV.val (Go.Value.int IntKind.i64 (IntKind.i64.wrap (b.getD
  (Int.toNat (4 : Int)) (0 : Int)))), SV.val (Go.Value.int IntKind.u32 (num4R (List.take ((↑b.length : Int) - (6 : Int)).toNat (List.drop (Int.toNat (6 : Int)) b))).fst), SV.val
  (Go.Value.int IntKind.u32 (num4R (List.take ((↑b.length : Int) - (10 : Int)).toNat (List.drop (Int.toNat (10 : Int)) b))).fst), SV.osl (2 : Nat) (0 : Nat) (IntKind.i64.wrap
  (IntKind.i64.wrap (b.getD (Int.toNat (5 : Int)) (0 : Int)) * IntKind.i64.wrap (b.getD (Int.toNat (5 : Int)) (0 : Int)))).toNat], HObj.row Md.rw ty22 (K.int IntKind.u32)
  (List.replicate (IntKind.i64.wrap (IntKind.i64.wrap (b.getD (Int.toNat (5 : Int)) (0 : Int)) * IntKind.i64.wrap (b.getD (Int.toNat (5 : Int)) (0 : Int)))).toNat (0 : Int))] ∧ ∃ (I
  : Int × Int × Unit → List Int × Unit → Prop), ∃ (μ : Int × Int × Unit → List Int × Unit → Nat), I ((0 : Int), (0 : Int), ()) (List.replicate (IntKind.i64.wrap (IntKind.i64.wrap
  (b.getD (Int.toNat (5 : Int)) (0 : Int)) * IntKind.i64.wrap (b.getD (Int.toNat (5 : Int)) (0 : Int)))).toNat (0 : Int), ()) ∧ ∀ (x : Int × Int × Unit) (y : List Int × Unit), I x y
  → ∀ (a : Bool), a = decide (x.snd.fst < (↑(IntKind.i64.wrap (IntKind.i64.wrap (b.getD (Int.toNat (5 : Int)) (0 : Int)) * IntKind.i64.wrap (b.getD (Int.toNat (5 : Int)) (0 :
  Int)))).toNat : Int)) → Br a (∃ (h : (0 : Int) ≤ IntKind.i64.wrap ((14 : Int) + IntKind.i64.wrap ((4 : Int) * x.snd.fst)) ∧ IntKind.i64.wrap ((14 : Int) + IntKind.i64.wrap ((4 :
  Int) * x.snd.fst)) ≤ (↑b.length : Int) ∧ (↑b.length : Int) ≤ (↑b.length : Int)), ∃ (h : WNum4 (List.take ((↑b.length : Int) - IntKind.i64.wrap ((14 : Int) + IntKind.i64.wrap ((4 :
  Int) * x.snd.fst))).toNat (List.drop (IntKind.i64.wrap ((14 : Int) + IntKind.i64.wrap ((4 : Int) * x.snd.fst))).toNat b))), ∃ (h : (0 : Int) ≤ x.snd.fst ∧ x.snd.fst <
  (↑(IntKind.i64.wrap (IntKind.i64.wrap (b.getD (Int.toNat (5 : Int)) (0 : Int)) * IntKind.i64.wrap (b.getD (Int.toNat (5 : Int)) (0 : Int)))).toNat : Int)), HIs [HObj.box Md.rw
  ty25 [SV.val (Go.Value.int IntKind.i64 (0 : Int)), SV.val (Go.Value.int IntKind.u32 (0 : Int)), SV.val (Go.Value.int IntKind.u32 (0 : Int)), SV.val (Go.Value.slice Option.none (0
  : Nat) (0 : Nat))], HObj.box Md.rw ty25 [SV.val (Go.Value.int IntKind.i64 (IntKind.i64.wrap (b.getD (Int.toNat (4 : Int)) (0 : Int)))), SV.val (Go.Value.int IntKind.u32 (num4R
  (List.take ((↑b.length : Int) - (6 : Int)).toNat (List.drop (Int.toNat (6 : Int)) b))).fst), SV.val (Go.Value.int IntKind.u32 (num4R (List.take ((↑b.length : Int) - (10 :
  Int)).toNat (List.drop (Int.toNat (10 : Int)) b))).fst), SV.osl (2 : Nat) (0 : Nat) (IntKind.i64.wrap (IntKind.i64.wrap (b.getD (Int.toNat (5 : Int)) (0 : Int)) * IntKind.i64.wrap
  (b.getD (Int.toNat (5 : Int)) (0 : Int)))).toNat], HObj.row Md.rw ty22 (K.int IntKind.u32) (y.fst.set ((0 : Nat) + x.snd.fst.toNat) (Go.bits Go.BinOp.xor IntKind.u32 x.fst (num4R
  (List.take ((↑b.length : Int) - IntKind.i64.wrap ((14 : Int) + IntKind.i64.wrap ((4 : Int) * x.snd.fst))).toNat (List.drop (IntKind.i64.wrap ((14 : Int) + IntKind.i64.wrap ((4 :
  Int) * x.snd.fst))).toNat b))).fst))] [HObj.box Md.rw ty25 [SV.val (Go.Value.int IntKind.i64 (0 : Int)), SV.val (Go.Value.int IntKind.u32 (0 : Int)), SV.val (Go.Value.int
  IntKind.u32 (0 : Int)), SV.val (Go.Value.slice Option.none (0 : Nat) (0 : Nat))], HObj.box Md.rw ty25 [SV.val (Go.Value.int IntKind.i64 (IntKind.i64.wrap (b.getD (Int.toNat (4 :
  Int)) (0 : Int)))), SV.val (Go.Value.int IntKind.u32 (num4R (List.take ((↑b.length : Int) - (6 : Int)).toNat (List.drop (Int.toNat (6 : Int)) b))).fst), SV.val (Go.Value.int
  IntKind.u32 (num4R (List.take ((↑b.length : Int) - (10 : Int)).toNat (List.drop (Int.toNat (10 : Int)) b))).fst), SV.osl (2 : Nat) (0 : Nat) (IntKind.i64.wrap (IntKind.i64.wrap
  (b.getD (Int.toNat (5 : Int)) (0 : Int)) * IntKind.i64.wrap (b.getD (Int.toNat (5 : Int)) (0 : Int)))).toNat], HObj.row Md.rw ty22 (K.int IntKind.u32) (y.fst.set ((0 : Nat) +
  x.snd.fst.toNat) (Go.bits Go.BinOp.xor IntKind.u32 x.fst (num4R (List.take ((↑b.length : Int) - IntKind.i64.wrap ((14 : Int) + IntKind.i64.wrap ((4 : Int) * x.snd.fst))).toNat
  (List.drop (IntKind.i64.wrap ((14 : Int) + IntKind.i64.wrap ((4 : Int) * x.snd.fst))).toNat b))).fst))] ∧ I (Go.bits Go.BinOp.xor IntKind.u32 x.fst (num4R (List.take ((↑b.length :
  Int) - IntKind.i64.wrap ((14 : Int) + IntKind.i64.wrap ((4 : Int) * x.snd.fst))).toNat (List.drop (IntKind.i64.wrap ((14 : Int) + IntKind.i64.wrap ((4 : Int) * x.snd.fst))).toNat
  b))).fst, IntKind.i64.wrap (x.snd.fst + (1 : Int)), ()) (y.fst.set ((0 : Nat) + x.snd.fst.toNat) (Go.bits Go.BinOp.xor IntKind.u32 x.fst (num4R (List.take ((↑b.length : Int) -
  IntKind.i64.wrap ((14 : Int) + IntKind.i64.wrap ((4 : Int) * x.snd.fst))).toNat (List.drop (IntKind.i64.wrap ((14 : Int) + IntKind.i64.wrap ((4 : Int) * x.snd.fst))).toNat
  b))).fst), ()) ∧ μ (Go.bits Go.BinOp.xor IntKind.u32 x.fst (num4R (List.take ((↑b.length : Int) - IntKind.i64.wrap ((14 : Int) + IntKind.i64.wrap ((4 : Int) * x.snd.fst))).toNat
  (List.drop (IntKind.i64.wrap ((14 : Int) + IntKind.i64.wrap ((4 : Int) * x.snd.fst))).toNat b))).fst, IntKind.i64.wrap (x.snd.fst + (1 : Int)), ()) (y.fst.set ((0 : Nat) +
  x.snd.fst.toNat) (Go.bits Go.BinOp.xor IntKind.u32 x.fst (num4R (List.take ((↑b.length : Int) - IntKind.i64.wrap ((14 : Int) + IntKind.i64.wrap ((4 : Int) * x.snd.fst))).toNat
  (List.drop (IntKind.i64.wrap ((14 : Int) + IntKind.i64.wrap ((4 : Int) * x.snd.fst))).toNat b))).fst), ()) < μ x y) (∃ (h : NET (IntKind.i64.wrap (b.getD (Int.toNat (4 : Int)) (0
  : Int)), (num4R (List.take ((↑b.length : Int) - (6 : Int)).toNat (List.drop (Int.toNat (6 : Int)) b))).fst, (num4R (List.take ((↑b.length : Int) - (10 : Int)).toNat (List.drop
  (Int.toNat (10 : Int)) b))).fst, List.take (IntKind.i64.wrap (IntKind.i64.wrap (b.getD (Int.toNat (5 : Int)) (0 : Int)) * IntKind.i64.wrap (b.getD (Int.toNat (5 : Int)) (0 :
  Int)))).toNat (List.drop (0 : Nat) y.fst))), ∀ (a : Bool), a = (lowR (IntKind.i64.wrap (b.getD (Int.toNat (4 : Int)) (0 : Int)), (num4R (List.take ((↑b.length : Int) - (6 :
  Int)).toNat (List.drop (Int.toNat (6 : Int)) b))).fst, (num4R (List.take ((↑b.length : Int) - (10 : Int)).toNat (List.drop (Int.toNat (10 : Int)) b))).fst, List.take
  (IntKind.i64.wrap (IntKind.i64.wrap (b.getD (Int.toNat (5 : Int)) (0 : Int)) * IntKind.i64.wrap (b.getD (Int.toNat (5 : Int)) (0 : Int)))).toNat (List.drop (0 : Nat) y.fst))).fst
  → Br (!a) (post (((0 : Int), (0 : Int), (0 : Int), []), (30 : Int), ())) (post ((IntKind.i64.wrap (b.getD (Int.toNat (4 : Int)) (0 : Int)), (num4R (List.take ((↑b.length : Int) -
  (6 : Int)).toNat (List.drop (Int.toNat (6 : Int)) b))).fst, (num4R (List.take ((↑b.length : Int) - (10 : Int)).toNat (List.drop (Int.toNat (10 : Int)) b))).fst, List.take
  (IntKind.i64.wrap (IntKind.i64.wrap (b.getD (Int.toNat (5 : Int)) (0 : Int)) * IntKind.i64.wrap (b.getD (Int.toNat (5 : Int)) (0 : Int)))).toNat (List.drop (0 : Nat) y.fst)), (0 :
  Int), ()))))))))))
theorem Lx_tile_Decode (ty0 ty1 : Nat) (b : List Int) (h : BLs b) (w : KS.wf [.slice (.int .u8)] (b, ())) : Fx_tile_Decode ty0 ty1 b (fun r => r = decodeR b) := by
  have U : ∀ k, k < b.length → U8 (b.getD k 0) := fun k hk => h _ (getD_mem hk 0)
  have hl : b.length ≤ maxN := w.1.1
  unfold maxN at hl
  have fin : ∀ t e, decodeT b = (t, e) → (t, e, ()) = decodeR b := by intro t e q; show _ = ((decodeT b).1, (decodeT b).2, ()); rw [q]
  rintro _ rfl
  refine Br.intro (fun e => fin _ _ ?_) fun e => ?_
  · unfold decodeT; rw [if_pos (by have := of_decide_eq_true e; omega)]; rfl
  have e0 : ¬ b.length < 14 := by have := of_decide_eq_false e; omega
  obtain ⟨w5', w55, w14⟩ := wrap_small (U 5 (by omega))
  have w5 : IntKind.i64.wrap (b.getD (Int.toNat (5 : Int)) (0 : Int)) = b.getD 5 0 := w5'
  have w4 : IntKind.i64.wrap (b.getD (Int.toNat (4 : Int)) (0 : Int)) = b.getD 4 0 := (wrap_small (U 4 (by omega))).1
  have u4 := U 4 (by omega)
  have u5 := U 5 (by omega)
  have bad : (b.take 4 ≠ [84, 73, 76, 69] ∨ b.getD 4 0 > 5 ∨ b.getD 5 0 < 1 ∨ b.getD 5 0 > 32) → decodeT b = (zeroT, 30) := by
    intro q; unfold decodeT; rw [if_neg e0, if_pos q]
  
  rw [w5, w4, w14, w55, tail_eq (b := b) (j := 6) 6 rfl, tail_eq (b := b) (j := 10) 10 rfl, num4_drop, num4_drop, head_eq h]
  refine ⟨⟨by omega, by omega⟩, ⟨by omega, by omega, by omega⟩, wnum4_drop h (by omega), ⟨by omega, by omega, by omega⟩, wnum4_drop h (by omega), ⟨by omega, by omega⟩, ⟨by omega, by omega, by omega⟩, ?_⟩
  
  rintro _ rfl
  refine Br.intro (fun e => fin _ _ (bad (.inl ?_))) fun e => ?_
  · have e : (!decide (b.take 4 = [84, 73, 76, 69])) = true := e
    simpa using e
  have g0 : b.take 4 = [84, 73, 76, 69] := by have e : (!decide (b.take 4 = [84, 73, 76, 69])) = false := e; simpa using e
  rintro _ rfl
  refine Br.intro (fun e => fin _ _ (bad (.inr (.inl ?_)))) fun e => ?_
  · have e : b.getD 4 0 ≥ 6 := of_decide_eq_true e
    omega
  have g1 : ¬ b.getD 4 0 > 5 := by
    have e : ¬ b.getD 4 0 ≥ 6 := of_decide_eq_false e
    omega
  rintro _ rfl
  refine Br.intro (fun e => fin _ _ (bad (.inr (.inr (.inl (of_decide_eq_true e)))))) fun e => ?_
  have g2 : ¬ b.getD 5 0 < 1 := of_decide_eq_false e
  rintro _ rfl
  refine Br.intro (fun e => fin _ _ (bad (.inr (.inr (.inr (of_decide_eq_true e)))))) fun e => ?_
  have g3 : ¬ b.getD 5 0 > 32 := of_decide_eq_false e
  have g : ¬ (b.take 4 ≠ [84, 73, 76, 69] ∨ b.getD 4 0 > 5 ∨ b.getD 5 0 < 1 ∨ b.getD 5 0 > 32) := by
    rintro (q | q | q | q)
    · exact q g0
    · exact g1 q
    · exact g2 q
    · exact g3 q
  rintro _ rfl
  refine Br.intro (fun e => fin _ _ ?_) fun e => ?_
  · have e : (b.length : Int) < 14 + 4 * b.getD 5 0 * b.getD 5 0 := of_decide_eq_true e
    unfold decodeT; rw [if_neg e0, if_neg g, if_pos e]; rfl
  have g4 : ¬ (b.length : Int) < 14 + 4 * b.getD 5 0 * b.getD 5 0 := of_decide_eq_false e
  rintro _ rfl
  refine Br.intro (fun e => fin _ _ ?_) fun e => ?_
  · have e : (b.length : Int) > 14 + 4 * b.getD 5 0 * b.getD 5 0 := of_decide_eq_true e
    unfold decodeT; rw [if_neg e0, if_neg g, if_neg g4, if_pos e]; rfl
  have g5 : ¬ (b.length : Int) > 14 + 4 * b.getD 5 0 * b.getD 5 0 := of_decide_eq_false e
  have base : decodeT b = if goodT (b.getD 4 0, num4 b 6, num4 b 10, decL b (b.getD 5 0 * b.getD 5 0).toNat 0 0) then ((b.getD 4 0, num4 b 6, num4 b 10, decL b (b.getD 5 0 * b.getD 5 0).toNat 0 0), 0) else (zeroT, 30) := by
    show (if b.length < 14 then _ else _) = _
    rw [if_neg e0, if_neg g, if_neg g4, if_neg g5]
  have sq := sq_bd (n := b.getD 5 0) (by omega) (by omega)
  rw [Int.mul_assoc] at g4 g5
  have rs := root_sq (n := b.getD 5 0) (by omega) (by omega)
  generalize hq : b.getD 5 0 * b.getD 5 0 = q at *
  obtain ⟨m, rfl⟩ : ∃ m : Nat, q = m := ⟨q.toNat, by omega⟩
  rw [Int.toNat_natCast] at base
  
  rw [Int.toNat_natCast]
  refine ⟨⟨by omega, by omega, by omega⟩, rfl, fun x y => ∃ (i : Nat) (P : List Int), x.2.1 = i ∧ i ≤ m ∧ U32 x.1 ∧ P.length = i ∧ y.1 = P ++ List.replicate (m - i) 0 ∧ decL b m 0 0 = P ++ decL b (m - i) i x.1, fun x _ => m - x.2.1.toNat, ⟨0, [], rfl, by omega, ⟨by decide, by decide⟩, rfl, rfl, rfl⟩, ?_⟩
  rintro ⟨l, _, ⟨⟩⟩ ⟨_, ⟨⟩⟩ ⟨i, P, rfl, him, hlr, hP, rfl, hd⟩
  dsimp only at hlr hd ⊢
  rintro _ rfl
  refine Br.intro (fun e => ?_) fun e => ?_
  · have e : i < m := by have := of_decide_eq_true e; omega
    have wi4 : IntKind.i64.wrap (14 + IntKind.i64.wrap (4 * (i : Int))) = ((14 + 4 * i : Nat) : Int) := by
      rw [wi (x := 4 * (i : Int)) ⟨by omega, by omega⟩, wi ⟨by omega, by omega⟩]; omega
    have xr : Go.bits .xor .u32 l (r1 (num4 b (14 + 4 * i))).1 = xorI l (num4 b (14 + 4 * i)) := xor_u32 hlr (num4_rng h (by omega))
    rw [wi4, tail_eq (14 + 4 * i) rfl, num4_drop, wi_succ e (by omega), xr]
    obtain ⟨k, hk⟩ : ∃ k, m - i = k + 1 := ⟨m - i - 1, by omega⟩
    have hk2 : m - (i + 1) = k := by omega
    rw [hk, decL_succ] at hd
    have sx : (P ++ List.replicate (m - i) (0 : Int)).set (0 + (i : Int).toNat) (xorI l (num4 b (14 + 4 * i))) = (P ++ [xorI l (num4 b (14 + 4 * i))]) ++ List.replicate (m - (i + 1)) 0 := by
      rw [hk, hk2, Int.toNat_natCast, Nat.zero_add, List.replicate_succ, set_mid hP, List.append_assoc]; rfl
    refine ⟨⟨by omega, by omega, by omega⟩, wnum4_drop h (by omega), ⟨by omega, by omega⟩, rfl, ⟨i + 1, P ++ [xorI l (num4 b (14 + 4 * i))], rfl, by omega, xorI_rng hlr (num4_rng h (by omega)), by rw [List.length_append, hP]; rfl, sx, ?_⟩, by omega⟩
    rw [hd, hk2, List.append_assoc]; rfl
  · have e : i = m := by have := of_decide_eq_false e; omega
    subst e
    have hP2 : List.take i (List.drop 0 (P ++ List.replicate (i - i) (0 : Int))) = P := by
      rw [Nat.sub_self, List.drop_zero]
      show List.take i (P ++ []) = P
      rw [List.append_nil, List.take_of_length_le (by omega)]
    rw [hP2]
    have hd2 : decL b i 0 0 = P := by rw [hd, Nat.sub_self]; exact List.append_nil _
    rw [hd2] at base
    have gl : goodT (b.getD 4 0, num4 b 6, num4 b 10, P) = lowT (b.getD 4 0, num4 b 6, num4 b 10, P) := by
      unfold goodT
      dsimp only
      rw [hP, rs, decide_eq_true (p := 0 ≤ b.getD 4 0) (by unfold U8 at u4; omega), decide_eq_true (p := b.getD 4 0 ≤ 5) (by omega), decide_eq_true (p := b.getD 5 0 ≠ 0) (by omega)]; rfl
    refine ⟨by show 0 < P.length; omega, ?_⟩
    rintro _ rfl
    refine Br.intro (fun f => fin _ _ ?_) fun f => fin _ _ ?_
    · have f : (!lowT (b.getD 4 0, num4 b 6, num4 b 10, P)) = true := f
      rw [base, gl, if_neg (by intro q; rw [q] at f; cases f)]; rfl
    · have f : (!lowT (b.getD 4 0, num4 b 6, num4 b 10, P)) = false := f
      rw [base, gl, if_pos (by simpa using f)]; rfl
def Fx_tile_Tiles := fun (ty40 ty25 ty22 : Nat) (n : Int) (s : List Nat × List Int × List Int × List Nat × Int × Int) (post : List (Int × Int × Int × List Int) × Int × Unit → Prop)
  => ∃ (h : WCheck n (s.fst, s.snd.fst, s.snd.snd.fst, s.snd.snd.snd.fst, s.snd.snd.snd.snd.fst, s.snd.snd.snd.snd.snd)), ∀ (a : Bool), a = ((checkR n (s.fst, s.snd.fst,
  s.snd.snd.fst, s.snd.snd.snd.fst, s.snd.snd.snd.snd.fst, s.snd.snd.snd.snd.snd)).snd.fst != (0 : Int)) → Br a (post ([], (checkR n (s.fst, s.snd.fst, s.snd.snd.fst,
  s.snd.snd.snd.fst, s.snd.snd.snd.snd.fst, s.snd.snd.snd.snd.snd)).snd.fst, ())) (∃ (h : (0 : Int) ≤ (6 : Int) ∧ (6 : Int) ≤ (6 : Int) ∧ (6 : Int) * (↑(40 : Nat) : Int) ≤
  (281474976710656 : Int)), HIs [HObj.box Md.rw ty40 [SV.data (K.flt Go.FloatKind.f64).slice s.fst, SV.data (K.int IntKind.i64).slice s.snd.fst, SV.data (K.int IntKind.i64).slice
  s.snd.snd.fst, SV.data (K.flt Go.FloatKind.f64).slice s.snd.snd.snd.fst, SV.val (Go.Value.int IntKind.i64 s.snd.snd.snd.snd.fst), SV.val (Go.Value.int IntKind.i64
  s.snd.snd.snd.snd.snd)], HObj.row Md.rw ty25 ((K.int IntKind.i64).pair ((K.int IntKind.u32).pair ((K.int IntKind.u32).pair (K.int IntKind.u32).slice))) (List.replicate (Int.toNat
  (6 : Int)) ((K.int IntKind.i64).pair ((K.int IntKind.u32).pair ((K.int IntKind.u32).pair (K.int IntKind.u32).slice))).dflt)] [HObj.box Md.rw ty40 [SV.data (K.flt
  Go.FloatKind.f64).slice s.fst, SV.data (K.int IntKind.i64).slice s.snd.fst, SV.data (K.int IntKind.i64).slice s.snd.snd.fst, SV.data (K.flt Go.FloatKind.f64).slice
  s.snd.snd.snd.fst, SV.val (Go.Value.int IntKind.i64 s.snd.snd.snd.snd.fst), SV.val (Go.Value.int IntKind.i64 s.snd.snd.snd.snd.snd)], HObj.row Md.rw ty25 ((K.int IntKind.i64).pair
  ((K.int IntKind.u32).pair ((K.int IntKind.u32).pair (K.int IntKind.u32).slice))) (List.replicate (Int.toNat (6 : Int)) ((K.int IntKind.i64).pair ((K.int IntKind.u32).pair ((K.int
  IntKind.u32).pair (K.int IntKind.u32).slice))).dflt)] ∧ ∃ (I : Int × Unit → List (Int × Int × Int × List Int) × Unit → Prop), ∃ (μ : Int × Unit → List (Int × Int × Int × List Int)
  × Unit → Nat), I ((0 : Int), ()) (List.replicate (Int.toNat (6 : Int)) ((K.int IntKind.i64).pair ((K.int IntKind.u32).pair ((K.int IntKind.u32).pair (K.int
  IntKind.u32).slice))).dflt, ()) ∧ ∀ (x : Int × Unit) (y : List (Int × Int × Int × List Int) × Unit), I x y → ∀ (a : Bool), a = decide (x.fst < (↑(Int.toNat (6 : Int)) : Int)) → Br
  a (∃ (h : (0 : Int) ≤ IntKind.i64.wrap (n * n) ∧ IntKind.i64.wrap (n * n) ≤ IntKind.i64.wrap (n * n) ∧ IntKind.i64.wrap (n * n) * (↑(4 : Nat) : Int) ≤ (281474976710656 : Int)),
  HIs [HObj.box Md.rw ty40 [SV.data (K.flt Go.FloatKind.f64).slice s.fst, SV.data (K.int IntKind.i64).slice s.snd.fst, SV.data (K.int IntKind.i64).slice s.snd.snd.fst, SV.data
  (K.flt Go.FloatKind.f64).slice s.snd.snd.snd.fst, SV.val (Go.Value.int IntKind.i64 s.snd.snd.snd.snd.fst), SV.val (Go.Value.int IntKind.i64 s.snd.snd.snd.snd.snd)], HObj.row Md.rw
  ty25 ((K.int IntKind.i64).pair ((K.int IntKind.u32).pair ((K.int IntKind.u32).pair (K.int IntKind.u32).slice))) y.fst, HObj.row Md.rw ty22 (K.int IntKind.u32) (List.replicate
  (IntKind.i64.wrap (n * n)).toNat (0 : Int))] [HObj.box Md.rw ty40 [SV.data (K.flt Go.FloatKind.f64).slice s.fst, SV.data (K.int IntKind.i64).slice s.snd.fst, SV.data (K.int
  IntKind.i64).slice s.snd.snd.fst, SV.data (K.flt Go.FloatKind.f64).slice s.snd.snd.snd.fst, SV.val (Go.Value.int IntKind.i64 s.snd.snd.snd.snd.fst), SV.val (Go.Value.int
  IntKind.i64 s.snd.snd.snd.snd.snd)], HObj.row Md.rw ty25 ((K.int IntKind.i64).pair ((K.int IntKind.u32).pair ((K.int IntKind.u32).pair (K.int IntKind.u32).slice))) y.fst, HObj.row
  Md.rw ty22 (K.int IntKind.u32) (List.replicate (IntKind.i64.wrap (n * n)).toNat (0 : Int))] ∧ ∃ (I_1 : Int × Unit → List Int × Unit → Prop), ∃ (μ_1 : Int × Unit → List Int × Unit
  → Nat), I_1 ((0 : Int), ()) (List.replicate (IntKind.i64.wrap (n * n)).toNat (0 : Int), ()) ∧ ∀ (x_3 : Int × Unit) (y_1 : List Int × Unit), I_1 x_3 y_1 → ∀ (a : Bool), a = decide
  (x_3.fst < (↑(IntKind.i64.wrap (n * n)).toNat : Int)) → Br a (∃ (h : (0 : Int) ≤ IntKind.i64.wrap (IntKind.i64.wrap (x.fst * IntKind.i64.wrap (n * n)) + x_3.fst) ∧
  IntKind.i64.wrap (IntKind.i64.wrap (x.fst * IntKind.i64.wrap (n * n)) + x_3.fst) < (↑s.snd.fst.length : Int)), ∃ (h : II n (IntKind.i64.wrap (IntKind.i64.wrap (x.fst *
  IntKind.i64.wrap (n * n)) + x_3.fst))), ∃ (h : II (s.snd.fst.getD (IntKind.i64.wrap (IntKind.i64.wrap (x.fst * IntKind.i64.wrap (n * n)) + x_3.fst)).toNat (0 : Int)) (areaR n
  (IntKind.i64.wrap (IntKind.i64.wrap (x.fst * IntKind.i64.wrap (n * n)) + x_3.fst))).fst), ∃ (h : W64 (depthR (s.snd.fst.getD (IntKind.i64.wrap (IntKind.i64.wrap (x.fst *
  IntKind.i64.wrap (n * n)) + x_3.fst)).toNat (0 : Int)) (areaR n (IntKind.i64.wrap (IntKind.i64.wrap (x.fst * IntKind.i64.wrap (n * n)) + x_3.fst))).fst).fst), ∃ (h : (0 : Int) ≤
  x_3.fst ∧ x_3.fst < (↑(IntKind.i64.wrap (n * n)).toNat : Int)), HIs [HObj.box Md.rw ty40 [SV.data (K.flt Go.FloatKind.f64).slice s.fst, SV.data (K.int IntKind.i64).slice
  s.snd.fst, SV.data (K.int IntKind.i64).slice s.snd.snd.fst, SV.data (K.flt Go.FloatKind.f64).slice s.snd.snd.snd.fst, SV.val (Go.Value.int IntKind.i64 s.snd.snd.snd.snd.fst),
  SV.val (Go.Value.int IntKind.i64 s.snd.snd.snd.snd.snd)], HObj.row Md.rw ty25 ((K.int IntKind.i64).pair ((K.int IntKind.u32).pair ((K.int IntKind.u32).pair (K.int
  IntKind.u32).slice))) y.fst, HObj.row Md.rw ty22 (K.int IntKind.u32) (y_1.fst.set ((0 : Nat) + x_3.fst.toNat) (to32R (depthR (s.snd.fst.getD (IntKind.i64.wrap (IntKind.i64.wrap
  (x.fst * IntKind.i64.wrap (n * n)) + x_3.fst)).toNat (0 : Int)) (areaR n (IntKind.i64.wrap (IntKind.i64.wrap (x.fst * IntKind.i64.wrap (n * n)) + x_3.fst))).fst).fst).fst)]
  [HObj.box Md.rw ty40 [SV.data (K.flt Go.FloatKind.f64).slice s.fst, SV.data (K.int IntKind.i64).slice s.snd.fst, SV.data (K.int IntKind.i64).slice s.snd.snd.fst, SV.data (K.flt
  Go.FloatKind.f64).slice s.snd.snd.snd.fst, SV.val (Go.Value.int IntKind.i64 s.snd.snd.snd.snd.fst), SV.val (Go.Value.int IntKind.i64 s.snd.snd.snd.snd.snd)], HObj.row Md.rw ty25
  ((K.int IntKind.i64).pair ((K.int IntKind.u32).pair ((K.int IntKind.u32).pair (K.int IntKind.u32).slice))) y.fst, HObj.row Md.rw ty22 (K.int IntKind.u32) (y_1.fst.set ((0 : Nat) +
  x_3.fst.toNat) (to32R (depthR (s.snd.fst.getD (IntKind.i64.wrap (IntKind.i64.wrap (x.fst * IntKind.i64.wrap (n * n)) + x_3.fst)).toNat (0 : Int)) (areaR n (IntKind.i64.wrap
  (IntKind.i64.wrap (x.fst * IntKind.i64.wrap (n * n)) + x_3.fst))).fst).fst).fst)] ∧ I_1 (IntKind.i64.wrap (x_3.fst + (1 : Int)), ()) (y_1.fst.set ((0 : Nat) + x_3.fst.toNat)
  (to32R (depthR (s.snd.fst.getD (IntKind.i64.wrap (IntKind.i64.wrap (x.fst * IntKind.i64.wrap (n * n)) + x_3.fst)).toNat (0 : Int)) (areaR n (IntKind.i64.wrap (IntKind.i64.wrap
  (x.fst * IntKind.i64.wrap (n * n)) + x_3.fst))).fst).fst).fst, ()) ∧ μ_1 (IntKind.i64.wrap (x_3.fst + (1 : Int)), ()) (y_1.fst.set ((0 : Nat) + x_3.fst.toNat) (to32R (depthR
  (s.snd.fst.getD (IntKind.i64.wrap (IntKind.i64.wrap (x.fst * IntKind.i64.wrap (n * n)) + x_3.fst)).toNat (0 : Int)) (areaR n (IntKind.i64.wrap (IntKind.i64.wrap (x.fst *
  IntKind.i64.wrap (n * n)) + x_3.fst))).fst).fst).fst, ()) < μ_1 x_3 y_1) (∃ (h : NE (List.take (IntKind.i64.wrap (n * n)).toNat (List.drop (0 : Nat) y_1.fst))), ∃ (h : (0 : Int) ≤
  x.fst ∧ x.fst < (↑(Int.toNat (6 : Int)) : Int)), HIs [HObj.box Md.rw ty40 [SV.data (K.flt Go.FloatKind.f64).slice s.fst, SV.data (K.int IntKind.i64).slice s.snd.fst, SV.data
  (K.int IntKind.i64).slice s.snd.snd.fst, SV.data (K.flt Go.FloatKind.f64).slice s.snd.snd.snd.fst, SV.val (Go.Value.int IntKind.i64 s.snd.snd.snd.snd.fst), SV.val (Go.Value.int
  IntKind.i64 s.snd.snd.snd.snd.snd)], HObj.row Md.rw ty25 ((K.int IntKind.i64).pair ((K.int IntKind.u32).pair ((K.int IntKind.u32).pair (K.int IntKind.u32).slice))) (y.fst.set ((0
  : Nat) + x.fst.toNat) (x.fst, (endsR (List.take (IntKind.i64.wrap (n * n)).toNat (List.drop (0 : Nat) y_1.fst))).fst, (endsR (List.take (IntKind.i64.wrap (n * n)).toNat (List.drop
  (0 : Nat) y_1.fst))).snd.fst, List.take (IntKind.i64.wrap (n * n)).toNat (List.drop (0 : Nat) y_1.fst)))] [HObj.box Md.rw ty40 [SV.data (K.flt Go.FloatKind.f64).slice s.fst,
  SV.data (K.int IntKind.i64).slice s.snd.fst, SV.data (K.int IntKind.i64).slice s.snd.snd.fst, SV.data (K.flt Go.FloatKind.f64).slice s.snd.snd.snd.fst, SV.val (Go.Value.int
  IntKind.i64 s.snd.snd.snd.snd.fst), SV.val (Go.Value.int IntKind.i64 s.snd.snd.snd.snd.snd)], HObj.row Md.rw ty25 ((K.int IntKind.i64).pair ((K.int IntKind.u32).pair ((K.int
  IntKind.u32).pair (K.int IntKind.u32).slice))) (y.fst.set ((0 : Nat) + x.fst.toNat) (x.fst, (endsR (List.take (IntKind.i64.wrap (n * n)).toNat (List.drop (0 : Nat) y_1.fst))).fst,
  (endsR (List.take (IntKind.i64.wrap (n * n)).toNat (List.drop (0 : Nat) y_1.fst))).snd.fst, List.take (IntKind.i64.wrap (n * n)).toNat (List.drop (0 : Nat) y_1.fst)))] ∧ I
  (IntKind.i64.wrap (x.fst + (1 : Int)), ()) (y.fst.set ((0 : Nat) + x.fst.toNat) (x.fst, (endsR (List.take (IntKind.i64.wrap (n * n)).toNat (List.drop (0 : Nat) y_1.fst))).fst,
  (endsR (List.take (IntKind.i64.wrap (n * n)).toNat (List.drop (0 : Nat) y_1.fst))).snd.fst, List.take (IntKind.i64.wrap (n * n)).toNat (List.drop (0 : Nat) y_1.fst)), ()) ∧ μ
  (IntKind.i64.wrap (x.fst + (1 : Int)), ()) (y.fst.set ((0 : Nat) + x.fst.toNat) (x.fst, (endsR (List.take (IntKind.i64.wrap (n * n)).toNat (List.drop (0 : Nat) y_1.fst))).fst,
  (endsR (List.take (IntKind.i64.wrap (n * n)).toNat (List.drop (0 : Nat) y_1.fst))).snd.fst, List.take (IntKind.i64.wrap (n * n)).toNat (List.drop (0 : Nat) y_1.fst)), ()) < μ x
  y)) (post (List.take (Int.toNat (6 : Int)) (List.drop (0 : Nat) y.fst), (0 : Int), ())))
theorem Lx_tile_Tiles (ty0 ty1 ty2 : Nat) (n : Int) (s : (List Nat) × (List Int) × (List Int) × (List Nat) × Int × Int) (h : WCheck n s) (w : KS.wf [.int .i64, kSea] (n, s, ())) : Fx_tile_Tiles ty0 ty1 ty2 n s (fun r => r = tilesR n s) := by
  obtain ⟨hn, hs⟩ := h
  refine ⟨⟨hn, hs⟩, ?_⟩
  rintro _ rfl
  refine Br.intro (fun e => ?_) fun e => ?_
  · have e : (checkI n s).2 ≠ 0 := bne_int.1 e
    show _ = ((tilesT n s).1, (tilesT n s).2, ())
    unfold tilesT; rw [if_pos e]; rfl
  have e : (checkI n s).2 = 0 := bne_int.2 e
  obtain ⟨hg, -, hwl, -, -⟩ := check_ok e
  obtain ⟨n1, n2⟩ := goodC_iff.1 hg
  have sq := sq_bd n1 n2
  obtain ⟨m, hm⟩ : ∃ m : Nat, n * n = m := ⟨(n * n).toNat, by omega⟩
  rw [cells_good hg] at hwl
  have wn : IntKind.i64.wrap (n * n) = (m : Int) := by rw [wi ⟨by omega, by omega⟩, hm]
  rw [wn, Int.toNat_natCast]
  rw [hm] at sq hwl
  refine ⟨⟨by decide, by decide, by decide⟩, rfl, fun x y => ∃ f : Nat, x.1 = f ∧ f ≤ 6 ∧ y.1 = (List.range f).map (tileF n s) ++ List.replicate (6 - f) zeroT, fun x _ => 6 - x.1.toNat, ⟨0, rfl, by omega, rfl⟩, ?_⟩
  rintro ⟨_, ⟨⟩⟩ ⟨_, ⟨⟩⟩ ⟨f, rfl, hf, rfl⟩
  dsimp only
  rintro _ rfl
  refine Br.intro (fun e1 => ?_) fun e1 => ?_
  · have e1 : f < 6 := by have e1 : (f : Int) < 6 := of_decide_eq_true e1; omega
    have fm : f * m ≤ 5 * m := Nat.mul_le_mul_right m (by omega)
    have wf : IntKind.i64.wrap ((f : Int) * m) = ((f * m : Nat) : Int) := by rw [← Int.natCast_mul]; exact wi ⟨by omega, by omega⟩
    rw [wf]
    refine ⟨⟨by omega, by omega, by omega⟩, rfl, fun x y => ∃ k : Nat, x.1 = k ∧ k ≤ m ∧ y.1 = ((List.range k).map fun k => cellB n s (f * m + k)) ++ List.replicate (m - k) 0, fun x _ => m - x.1.toNat, ⟨0, rfl, by omega, rfl⟩, ?_⟩
    rintro ⟨_, ⟨⟩⟩ ⟨_, ⟨⟩⟩ ⟨k, rfl, hk, rfl⟩
    dsimp only
    rintro _ rfl
    refine Br.intro (fun e2 => ?_) fun e2 => ?_
    · have e2 : k < m := by have := of_decide_eq_true e2; omega
      have wc : IntKind.i64.wrap (((f * m : Nat) : Int) + k) = ((f * m + k : Nat) : Int) := by rw [← Int.natCast_add]; exact wi ⟨by omega, by omega⟩
      rw [wc, Int.toNat_natCast, wi_succ e2 (by omega)]
      have hc : f * m + k < s.2.1.length := by omega
      have sx : (((List.range k).map fun k => cellB n s (f * m + k)) ++ List.replicate (m - k) (0 : Int)).set (0 + (k : Int).toNat) (cellB n s (f * m + k)) = ((List.range (k + 1)).map fun k => cellB n s (f * m + k)) ++ List.replicate (m - (k + 1)) 0 := by
        obtain ⟨j, hj⟩ : ∃ j, m - k = j + 1 := ⟨m - k - 1, by omega⟩
        rw [hj, show m - (k + 1) = j by omega, List.replicate_succ, Int.toNat_natCast, Nat.zero_add, set_mid (by rw [List.length_map, List.length_range]), range_map_succ, List.append_assoc]; rfl
      exact ⟨⟨by omega, by omega⟩, ⟨hn, by omega, by omega⟩, ⟨hs.2.1 _ (getD_mem hc 0), (area_rng _ _).1⟩, depthQ_w _ _, ⟨by omega, by omega⟩, rfl, ⟨k + 1, rfl, by omega, sx⟩, by omega⟩
    · have e2 : k = m := by have := of_decide_eq_false e2; omega
      subst e2
      have hL : List.take k (List.drop 0 (((List.range k).map fun j => cellB n s (f * k + j)) ++ List.replicate (k - k) (0 : Int))) = (List.range k).map fun j => cellB n s (f * k + j) := by
        rw [Nat.sub_self, List.drop_zero]
        show List.take k (_ ++ []) = _
        rw [List.append_nil, List.take_of_length_le (by rw [List.length_map, List.length_range]; omega)]
      rw [hL, wi_succ e1 (by omega)]
      refine ⟨by show 0 < List.length _; rw [List.length_map, List.length_range]; omega, ⟨by omega, by show (f : Int) < 6; omega⟩, rfl, ⟨f + 1, rfl, by omega, ?_⟩, by omega⟩
      obtain ⟨j, hj⟩ : ∃ j, 6 - f = j + 1 := ⟨6 - f - 1, by omega⟩
      rw [hj, show 6 - (f + 1) = j by omega, List.replicate_succ, Int.toNat_natCast, Nat.zero_add]
      show List.set (_ ++ zeroT :: List.replicate j zeroT) f _ = _
      rw [set_mid (by rw [List.length_map, List.length_range]), range_map_succ, List.append_assoc]
      exact congrArg (fun z => (List.range f).map (tileF n s) ++ z :: List.replicate j zeroT) (tileF_eq hm rfl)
  · have e1 : f = 6 := by have e1 : ¬ (f : Int) < 6 := of_decide_eq_false e1; omega
    subst e1
    show _ = ((tilesT n s).1, (tilesT n s).2, ())
    unfold tilesT; rw [if_neg (by rw [e]; decide)]; rfl
end Go.Lift

/- Own work. -/
set_option linter.unusedVariables false
set_option linter.unusedSimpArgs false
namespace Go.Lift
def Fx_state_between := fun (a b c : Nat) (post : Bool × Unit → Prop) => ∀ (a_1 : Bool), a_1 = fcmp Go.BinOp.geq (Go.FloatKind.f64.format.order a b) → Br a_1 (∀ (a_2 : Bool), a_2 =
  fcmp Go.BinOp.leq (Go.FloatKind.f64.format.order a c) → Br a_2 (∃ (h : True), ∀ (a_3 : Bool), a_3 = ((bitsR a).fst != (9223372036854775808 : Int)) → post (a_3, ())) (post
  (Bool.false, ()))) (post (Bool.false, ()))
theorem Lx_state_between (a : Nat) (b : Nat) (c : Nat) (h : W3 a b c) : Fx_state_between  a b c (fun r => r = betweenR a b c) := by
  have nz : ∀ x : Nat, ((x : Int) != (9223372036854775808 : Int)) = decide (x ≠ 9223372036854775808) := by
    intro x
    show (!((x : Int) == ((9223372036854775808 : Nat) : Int))) = _
    rw [beq_nat]
    by_cases q : x = 9223372036854775808
    · rw [decide_eq_true q, decide_eq_false (by simpa using q)]; rfl
    · rw [decide_eq_false q, decide_eq_true q]; rfl
  rintro _ rfl
  refine Br.intro (fun e => ?_) fun e => ?_
  · rintro _ rfl
    refine Br.intro (fun f => ?_) fun f => ?_
    · refine ⟨trivial, ?_⟩
      rintro _ rfl
      refine congrArg r1 ?_
      show ((a : Int) != (9223372036854775808 : Int)) = betweenF a b c
      unfold betweenF
      rw [nz, show fcmp .geq (Ieee.double.order a b) = true from e, show fcmp .leq (Ieee.double.order a c) = true from f]; rfl
    · exact congrArg r1 (by unfold betweenF; rw [show fcmp .leq (Ieee.double.order a c) = false from f, Bool.and_false]; rfl)
  · exact congrArg r1 (by unfold betweenF; rw [show fcmp .geq (Ieee.double.order a b) = false from e]; rfl)
def Fx_state_floats := fun (ty47 : Nat) (a : List Nat) (b : Nat) (post : Int × Unit → Prop) => HIs [HObj.box Md.rw ty47 [SV.val (Go.Value.float Go.FloatKind.f64 b)]] [HObj.box Md.rw
  ty47 [SV.val (Go.Value.float Go.FloatKind.f64 b)]] ∧ ∃ (I : Int × Unit → Unit → Prop), ∃ (μ : Int × Unit → Unit → Nat), I ((0 : Int), ()) () ∧ ∀ (x : Int × Unit) (y : Unit), I x y
  → ∀ (a_1 : Bool), a_1 = decide (x.fst < (↑a.length : Int)) → Br a_1 (∃ (h : (0 : Int) ≤ x.fst ∧ x.fst < (↑a.length : Int)), ∃ (h : W3 (a.getD x.fst.toNat (0 : Nat))
  (Go.Op.negFloat Go.FloatKind.f64 b) b), ∀ (a_2 : Bool), a_2 = (betweenR (a.getD x.fst.toNat (0 : Nat)) (Go.Op.negFloat Go.FloatKind.f64 b) b).fst → Br (!a_2) (post (x.fst, ()))
  (HIs [HObj.box Md.rw ty47 [SV.val (Go.Value.float Go.FloatKind.f64 b)]] [HObj.box Md.rw ty47 [SV.val (Go.Value.float Go.FloatKind.f64 b)]] ∧ I (IntKind.i64.wrap (x.fst + (1 :
  Int)), ()) () ∧ μ (IntKind.i64.wrap (x.fst + (1 : Int)), ()) () < μ x y)) (post ((-1 : Int), ()))
theorem Lx_state_floats (ty0 : Nat) (a : List Nat) (b : Nat) (h : WLF a b) (w : KS.wf [.slice (.flt .f64), .flt .f64] (a, b, ())) : Fx_state_floats ty0 a b (fun r => r = floatsR a b) := by
  have hl : a.length ≤ maxN := w.1.1
  unfold maxN at hl
  refine ⟨rfl, fun x _ => ∃ i : Nat, x.1 = i ∧ i ≤ a.length ∧ floatsI a b = firstI (fun x => !betweenF x (negF b) b) i (a.drop i), fun x _ => a.length - x.1.toNat, ⟨0, rfl, by omega, rfl⟩, ?_⟩
  rintro ⟨_, ⟨⟩⟩ _ ⟨i, rfl, hil, hi⟩
  dsimp only
  rintro _ rfl
  refine Br.intro (fun e => ?_) fun e => ?_
  · have e : i < a.length := by have := of_decide_eq_true e; omega
    refine ⟨⟨by omega, by omega⟩, ?_⟩
    rw [Int.toNat_natCast]
    rw [drop_step e 0, firstI_cons] at hi
    refine ⟨⟨h.1 _ (getD_mem e 0), negF_w h.2, h.2⟩, ?_⟩
    rintro _ rfl
    refine Br.intro (fun f => ?_) fun f => ?_
    · refine congrArg r1 ?_
      rw [hi]
      rw [if_pos (show (!betweenF (a.getD i 0) (negF b) b) = true from f)]
    · rw [if_neg (by rw [show (!betweenF (a.getD i 0) (negF b) b) = false from f]; decide)] at hi
      rw [wi_succ e (by omega)]
      exact ⟨rfl, ⟨i + 1, rfl, by omega, hi⟩, by omega⟩
  · have e : ¬ i < a.length := by have := of_decide_eq_false e; omega
    refine congrArg r1 ?_
    rw [hi, List.drop_eq_nil_of_le (by omega)]; rfl
def Fx_state_quanta := fun (ty2 : Nat) (a : List Int) (b : Int) (post : Int × Unit → Prop) => HIs [HObj.box Md.rw ty2 [SV.junk]] [HObj.box Md.rw ty2 [SV.junk]] ∧ ∃ (I : Int × Int ×
  Unit → Unit → Prop), ∃ (μ : Int × Int × Unit → Unit → Nat), I ((0 : Int), b, ()) () ∧ ∀ (x : Int × Int × Unit) (y : Unit), I x y → ∀ (a_1 : Bool), a_1 = decide (x.fst < (↑a.length
  : Int)) → Br a_1 (∃ (h : (0 : Int) ≤ x.fst ∧ x.fst < (↑a.length : Int)), ∀ (a_2 : Bool), a_2 = decide (a.getD x.fst.toNat (0 : Int) < (0 : Int)) → Br a_2 (post (x.fst, ())) (∀
  (a_3 : Bool), a_3 = decide (a.getD x.fst.toNat (0 : Int) > IntKind.i64.wrap ((4503599627370496 : Int) - x.snd.fst)) → Br a_3 (post (x.fst, ())) (HIs [HObj.box Md.rw ty2 [SV.junk]]
  [HObj.box Md.rw ty2 [SV.junk]] ∧ I (IntKind.i64.wrap (x.fst + (1 : Int)), IntKind.i64.wrap (x.snd.fst + a.getD x.fst.toNat (0 : Int)), ()) () ∧ μ (IntKind.i64.wrap (x.fst + (1 :
  Int)), IntKind.i64.wrap (x.snd.fst + a.getD x.fst.toNat (0 : Int)), ()) () < μ x y))) (post ((-1 : Int), ()))
theorem Lx_state_quanta (ty0 : Nat) (a : List Int) (b : Int) (h : WQuanta a b) (w : KS.wf [.slice (.int .i64), .int .i64] (a, b, ())) : Fx_state_quanta ty0 a b (fun r => r = quantaR a b) := by
  have hl : a.length ≤ maxN := w.1.1
  unfold maxN at hl
  obtain ⟨ha, hb0, hb1⟩ := h
  refine ⟨rfl, fun x _ => ∃ i : Nat, x.1 = i ∧ i ≤ a.length ∧ 0 ≤ x.2.1 ∧ x.2.1 ≤ 4503599627370496 ∧ quantaN 0 b a = quantaN i x.2.1 (a.drop i), fun x _ => a.length - x.1.toNat, ⟨0, rfl, by omega, hb0, hb1, rfl⟩, ?_⟩
  rintro ⟨_, s, ⟨⟩⟩ _ ⟨i, rfl, hil, h0, h1, hi⟩
  dsimp only at h0 h1 hi ⊢
  have ws : IntKind.i64.wrap (4503599627370496 - s) = 4503599627370496 - s := wi ⟨by omega, by omega⟩
  rintro _ rfl
  refine Br.intro (fun e => ?_) fun e => ?_
  · have e : i < a.length := by have := of_decide_eq_true e; omega
    refine ⟨⟨by omega, by omega⟩, ?_⟩
    rw [Int.toNat_natCast, ws]
    rw [drop_step e 0, quantaN_cons] at hi
    have hr := ha _ (getD_mem e 0)
    rintro _ rfl
    refine Br.intro (fun f => ?_) fun f => ?_
    · refine congrArg r1 ?_
      rw [hi]
      rw [if_pos (.inl (of_decide_eq_true f))]
    have f := of_decide_eq_false f
    rintro _ rfl
    refine Br.intro (fun g => ?_) fun g => ?_
    · refine congrArg r1 ?_
      rw [hi]
      rw [if_pos (.inr (of_decide_eq_true g))]
    · have g := of_decide_eq_false g
      rw [if_neg (by omega)] at hi
      rw [wi_succ e (by omega), wi (x := s + a.getD i 0) ⟨by omega, by omega⟩]
      exact ⟨rfl, ⟨i + 1, rfl, by omega, by omega, by omega, hi⟩, by omega⟩
  · have e : ¬ i < a.length := by have := of_decide_eq_false e; omega
    refine congrArg r1 ?_
    rw [hi, List.drop_eq_nil_of_le (by omega)]; rfl
def Fx_state_Check := fun (n : Int) (s : List Nat × List Int × List Int × List Nat × Int × Int) (post : Int × Int × Unit → Prop) => ∃ (h : I64 n), Br ((cellsR n).fst == (0 : Int))
  (post ((0 : Int), (10 : Int), ())) (∃ (h : (2 : Int) ≠ (0 : Int)), ∃ (h : (0 : Int) ≤ (0 : Int) ∧ (0 : Int) < (↑(4 : Nat) : Int)), Br ([(↑s.fst.length : Int), (↑s.snd.fst.length :
  Int), (↑s.snd.snd.fst.length : Int), IntKind.i64.wrap ((↑s.snd.snd.snd.fst.length : Int).tdiv (2 : Int))].getD (Int.toNat (0 : Int)) (0 : Int) != (cellsR n).fst) (post ((0 : Int),
  (12 : Int), ())) (∃ (h : (0 : Int) ≤ IntKind.i64.wrap ((0 : Int) + (1 : Int)) ∧ IntKind.i64.wrap ((0 : Int) + (1 : Int)) < (↑(4 : Nat) : Int)), Br ([(↑s.fst.length : Int),
  (↑s.snd.fst.length : Int), (↑s.snd.snd.fst.length : Int), IntKind.i64.wrap ((↑s.snd.snd.snd.fst.length : Int).tdiv (2 : Int))].getD (IntKind.i64.wrap ((0 : Int) + (1 :
  Int))).toNat (0 : Int) != (cellsR n).fst) (post (IntKind.i64.wrap ((0 : Int) + (1 : Int)), (12 : Int), ())) (∃ (h : (0 : Int) ≤ IntKind.i64.wrap (IntKind.i64.wrap ((0 : Int) + (1
  : Int)) + (1 : Int)) ∧ IntKind.i64.wrap (IntKind.i64.wrap ((0 : Int) + (1 : Int)) + (1 : Int)) < (↑(4 : Nat) : Int)), Br ([(↑s.fst.length : Int), (↑s.snd.fst.length : Int),
  (↑s.snd.snd.fst.length : Int), IntKind.i64.wrap ((↑s.snd.snd.snd.fst.length : Int).tdiv (2 : Int))].getD (IntKind.i64.wrap (IntKind.i64.wrap ((0 : Int) + (1 : Int)) + (1 :
  Int))).toNat (0 : Int) != (cellsR n).fst) (post (IntKind.i64.wrap (IntKind.i64.wrap ((0 : Int) + (1 : Int)) + (1 : Int)), (12 : Int), ())) (∃ (h : (0 : Int) ≤ IntKind.i64.wrap
  (IntKind.i64.wrap (IntKind.i64.wrap ((0 : Int) + (1 : Int)) + (1 : Int)) + (1 : Int)) ∧ IntKind.i64.wrap (IntKind.i64.wrap (IntKind.i64.wrap ((0 : Int) + (1 : Int)) + (1 : Int)) +
  (1 : Int)) < (↑(4 : Nat) : Int)), Br ([(↑s.fst.length : Int), (↑s.snd.fst.length : Int), (↑s.snd.snd.fst.length : Int), IntKind.i64.wrap ((↑s.snd.snd.snd.fst.length : Int).tdiv (2
  : Int))].getD (IntKind.i64.wrap (IntKind.i64.wrap (IntKind.i64.wrap ((0 : Int) + (1 : Int)) + (1 : Int)) + (1 : Int))).toNat (0 : Int) != (cellsR n).fst) (post (IntKind.i64.wrap
  (IntKind.i64.wrap (IntKind.i64.wrap ((0 : Int) + (1 : Int)) + (1 : Int)) + (1 : Int)), (12 : Int), ())) (Br ((↑s.snd.snd.snd.fst.length : Int) != IntKind.i64.wrap ((2 : Int) *
  (cellsR n).fst)) (post (IntKind.i64.wrap (IntKind.i64.wrap (IntKind.i64.wrap ((0 : Int) + (1 : Int)) + (1 : Int)) + (1 : Int)), (12 : Int), ())) (∃ (h : WLF s.fst
  (4697254411347427328 : Nat)), Br (decide ((floatsR s.fst (4697254411347427328 : Nat)).fst ≥ (0 : Int))) (post ((floatsR s.fst (4697254411347427328 : Nat)).fst, (13 : Int), ()))
  (Br (decide (s.snd.snd.snd.snd.fst < (0 : Int))) (post ((0 : Int), (17 : Int), ())) (Br (decide (s.snd.snd.snd.snd.fst > (4503599627370496 : Int))) (post ((0 : Int), (17 : Int),
  ())) (∃ (h : WQuanta s.snd.fst s.snd.snd.snd.snd.fst), Br (decide ((quantaR s.snd.fst s.snd.snd.snd.snd.fst).fst ≥ (0 : Int))) (post ((quantaR s.snd.fst
  s.snd.snd.snd.snd.fst).fst, (14 : Int), ())) (∃ (h : WQuanta s.snd.snd.fst (0 : Int)), Br (decide ((quantaR s.snd.snd.fst (0 : Int)).fst ≥ (0 : Int))) (post ((quantaR
  s.snd.snd.fst (0 : Int)).fst, (15 : Int), ())) (∃ (h : WLF s.snd.snd.snd.fst (4652218415073722368 : Nat)), Br (decide ((floatsR s.snd.snd.snd.fst (4652218415073722368 : Nat)).fst
  ≥ (0 : Int))) (post ((floatsR s.snd.snd.snd.fst (4652218415073722368 : Nat)).fst, (16 : Int), ())) (Br (decide (s.snd.snd.snd.snd.snd < (0 : Int))) (post ((0 : Int), (1 : Int),
  ())) (Br (decide (s.snd.snd.snd.snd.snd > (4611686018427387904 : Int))) (post ((0 : Int), (1 : Int), ())) (post ((0 : Int), (0 : Int), ())))))))))))))))
theorem Lx_state_Check (n : Int) (s : (List Nat) × (List Int) × (List Int) × (List Nat) × Int × Int) (h : WCheck n s) (w : KS.wf [.int .i64, kSea] (n, s, ())) : Fx_state_Check  n s (fun r => r = checkR n s) := by
  obtain ⟨hn, hb, hw, ht, hs, h4, h5⟩ := h
  have l1 : s.1.length ≤ maxN := w.2.1.1.1
  have l2 : s.2.2.2.1.length ≤ maxN := w.2.1.2.2.2.1.1
  unfold maxN at l1 l2
  obtain ⟨c0, c1⟩ := cells_rng n
  have wc : IntKind.i64.wrap (2 * cellsI n) = 2 * cellsI n := wi ⟨by omega, by omega⟩
  have td : (s.2.2.2.1.length : Int).tdiv 2 = (s.2.2.2.1.length : Int) / 2 := Int.tdiv_eq_ediv_of_nonneg (by omega)
  have wd : IntKind.i64.wrap ((s.2.2.2.1.length : Int) / 2) = (s.2.2.2.1.length : Int) / 2 := wi ⟨by omega, by omega⟩
  refine ⟨hn, Br.intro (fun e => ?_) fun e => ?_⟩
  · have e : cellsI n = 0 := eq_of_beq e
    show _ = ((checkI n s).1, (checkI n s).2, ())
    unfold checkI; rw [if_pos e]
  have e0 : ¬ cellsI n = 0 := by intro q; have e : (cellsI n == 0) = false := e; rw [q] at e; cases e
  refine ⟨by decide, ⟨by decide, by decide⟩, Br.intro (fun e => ?_) fun e => ?_⟩
  · have e : (s.1.length : Int) ≠ cellsI n := bne_int.1 e
    show _ = ((checkI n s).1, (checkI n s).2, ())
    unfold checkI; rw [if_neg e0, if_pos e]
  have e1 : (s.1.length : Int) = cellsI n := bne_int.2 e
  refine ⟨⟨by decide, by decide⟩, Br.intro (fun e => ?_) fun e => ?_⟩
  · have e : (s.2.1.length : Int) ≠ cellsI n := bne_int.1 e
    show _ = ((checkI n s).1, (checkI n s).2, ())
    unfold checkI; rw [if_neg e0, if_neg (by omega), if_pos e]; rfl
  have e2 : (s.2.1.length : Int) = cellsI n := bne_int.2 e
  refine ⟨⟨by decide, by decide⟩, Br.intro (fun e => ?_) fun e => ?_⟩
  · have e : (s.2.2.1.length : Int) ≠ cellsI n := bne_int.1 e
    show _ = ((checkI n s).1, (checkI n s).2, ())
    unfold checkI; rw [if_neg e0, if_neg (by omega), if_neg (by omega), if_pos e]; rfl
  have e3 : (s.2.2.1.length : Int) = cellsI n := bne_int.2 e
  have no3 : (s.2.2.2.1.length : Int) ≠ 2 * cellsI n → ((3 : Int), (12 : Int), ()) = checkR n s := by
    intro e
    show _ = ((checkI n s).1, (checkI n s).2, ())
    unfold checkI; rw [if_neg e0, if_neg (by omega), if_neg (by omega), if_neg (by omega), if_pos e]
  refine ⟨⟨by decide, by decide⟩, Br.intro (fun e => ?_) fun e => ?_⟩
  · have e : IntKind.i64.wrap ((s.2.2.2.1.length : Int).tdiv 2) ≠ cellsI n := bne_int.1 e
    rw [td, wd] at e
    exact no3 (by omega)
  refine Br.intro (fun e => ?_) fun e => ?_
  · have e : (s.2.2.2.1.length : Int) ≠ IntKind.i64.wrap (2 * cellsI n) := bne_int.1 e
    rw [wc] at e
    exact no3 e
  have e4 : (s.2.2.2.1.length : Int) = IntKind.i64.wrap (2 * cellsI n) := bne_int.2 e
  rw [wc] at e4
  have base : checkI n s = if 0 ≤ floatsI s.1 4697254411347427328 then (floatsI s.1 4697254411347427328, 13)
    else if s.2.2.2.2.1 < 0 ∨ s.2.2.2.2.1 > 4503599627370496 then (0, 17)
    else if 0 ≤ quantaN 0 s.2.2.2.2.1 s.2.1 then (quantaN 0 s.2.2.2.2.1 s.2.1, 14)
    else if 0 ≤ quantaN 0 0 s.2.2.1 then (quantaN 0 0 s.2.2.1, 15)
    else if 0 ≤ floatsI s.2.2.2.1 4652218415073722368 then (floatsI s.2.2.2.1 4652218415073722368, 16)
    else if s.2.2.2.2.2 < 0 ∨ s.2.2.2.2.2 > 4611686018427387904 then (0, 1)
    else (0, 0) := by
    show (if cellsI n = 0 then _ else _) = _
    rw [if_neg e0, if_neg (by omega), if_neg (by omega), if_neg (by omega), if_neg (by omega)]
  have fin : ∀ p q, checkI n s = (p, q) → (p, q, ()) = checkR n s := by intro p q e; show _ = ((checkI n s).1, (checkI n s).2, ()); rw [e]
  refine ⟨⟨hb, by unfold W64; decide⟩, Br.intro (fun e => fin _ _ ?_) fun e => ?_⟩
  · have e : 0 ≤ floatsI s.1 4697254411347427328 := of_decide_eq_true e
    rw [base, if_pos e]; rfl
  have f1 : ¬ 0 ≤ floatsI s.1 4697254411347427328 := of_decide_eq_false e
  rw [if_neg f1] at base
  refine Br.intro (fun e => fin _ _ ?_) fun e => ?_
  · rw [base, if_pos (.inl (of_decide_eq_true e))]
  have f2 := of_decide_eq_false e
  refine Br.intro (fun e => fin _ _ ?_) fun e => ?_
  · rw [base, if_pos (.inr (of_decide_eq_true e))]
  have f3 := of_decide_eq_false e
  rw [if_neg (by omega)] at base
  refine ⟨⟨hw, by omega, by omega⟩, Br.intro (fun e => fin _ _ ?_) fun e => ?_⟩
  · have e : 0 ≤ quantaN 0 s.2.2.2.2.1 s.2.1 := of_decide_eq_true e
    rw [base, if_pos e]; rfl
  have f4 : ¬ 0 ≤ quantaN 0 s.2.2.2.2.1 s.2.1 := of_decide_eq_false e
  rw [if_neg f4] at base
  refine ⟨⟨ht, by omega, by omega⟩, Br.intro (fun e => fin _ _ ?_) fun e => ?_⟩
  · have e : 0 ≤ quantaN 0 0 s.2.2.1 := of_decide_eq_true e
    rw [base, if_pos e]; rfl
  have f5 : ¬ 0 ≤ quantaN 0 0 s.2.2.1 := of_decide_eq_false e
  rw [if_neg f5] at base
  refine ⟨⟨hs, by unfold W64; decide⟩, Br.intro (fun e => fin _ _ ?_) fun e => ?_⟩
  · have e : 0 ≤ floatsI s.2.2.2.1 4652218415073722368 := of_decide_eq_true e
    rw [base, if_pos e]; rfl
  have f6 : ¬ 0 ≤ floatsI s.2.2.2.1 4652218415073722368 := of_decide_eq_false e
  rw [if_neg f6] at base
  refine Br.intro (fun e => fin _ _ ?_) fun e => ?_
  · rw [base, if_pos (.inl (of_decide_eq_true e))]
  have f7 := of_decide_eq_false e
  refine Br.intro (fun e => fin _ _ ?_) fun e => fin _ _ ?_
  · rw [base, if_pos (.inr (of_decide_eq_true e))]
  have f8 := of_decide_eq_false e
  rw [base, if_neg (by omega)]
end Go.Lift

/- Own work. -/
set_option linter.unusedVariables false
set_option linter.unusedSimpArgs false
namespace Go.Lift
def Fx_cube_good := fun (a : Int) (post : Bool × Unit → Prop) => ∀ (a_1 : Bool), a_1 = decide (a ≥ (1 : Int)) → Br a_1 (∀ (a_2 : Bool), a_2 = decide (a ≤ (32 : Int)) → post (a_2,
  ())) (post (Bool.false, ()))
theorem Lx_cube_good (a : Int) : Fx_cube_good  a (fun r => r = goodCR a) := by
  rintro _ rfl
  refine Br.intro (fun e => ?_) fun e => ?_
  · rintro _ rfl
    refine congrArg r1 ?_
    show _ = goodC a
    unfold goodC
    rw [show decide ((1 : Int) ≤ a) = true from e, Bool.true_and]
  · refine congrArg r1 ?_
    show _ = goodC a
    unfold goodC
    rw [show decide ((1 : Int) ≤ a) = false from e, Bool.false_and]
def Fx_cube_Cells := fun (a : Int) (post : Int × Unit → Prop) => ∃ (h : True), ∀ (a_1 : Bool), a_1 = (goodCR a).fst → Br (!a_1) (post ((0 : Int), ())) (post (IntKind.i64.wrap
  (IntKind.i64.wrap ((6 : Int) * a) * a), ()))
theorem Lx_cube_Cells (a : Int) (h : I64 a) : Fx_cube_Cells  a (fun r => r = cellsR a) := by
  refine ⟨trivial, ?_⟩
  rintro _ rfl
  refine Br.intro (fun e => ?_) fun e => ?_
  · have e : (!goodC a) = true := e
    exact congrArg r1 (cells_bad (by simpa using e)).symm
  · have e : (!goodC a) = false := e
    exact congrArg r1 (cells_wrap (by simpa using e))
def Fx_cube_Place := fun (n c : Int) (post : Int × Int × Int × Bool × Unit → Prop) => ∀ (a : Bool), a = decide (c < (0 : Int)) → Br a (post ((0 : Int), (0 : Int), (0 : Int),
  Bool.false, ())) (∃ (h : I64 n), ∀ (a : Bool), a = decide (c ≥ (cellsR n).fst) → Br a (post ((0 : Int), (0 : Int), (0 : Int), Bool.false, ())) (∃ (h : IntKind.i64.wrap (n * n) ≠
  (0 : Int)), ∃ (h : n ≠ (0 : Int)), ∃ (h : n ≠ (0 : Int)), ∃ (h : n ≠ (0 : Int)), post (IntKind.i64.wrap (c.tdiv (IntKind.i64.wrap (n * n))), c.tmod n, (IntKind.i64.wrap (c.tdiv
  n)).tmod n, Bool.true, ())))
theorem Lx_cube_Place (n : Int) (c : Int) (h : II n c) : Fx_cube_Place  n c (fun r => r = placeR4 n c) := by
  have bad : placeOk n c = false → ((0 : Int), (0 : Int), (0 : Int), false, ()) = placeR4 n c := by
    intro e; unfold placeR4; rw [if_neg (by rw [e]; decide)]
  rintro _ rfl
  refine Br.intro (fun e => ?_) fun e => ?_
  · have e := of_decide_eq_true e
    exact bad (by unfold placeOk; rw [decide_eq_false (by omega), Bool.false_and])
  · have e := of_decide_eq_false e
    refine ⟨h.1, ?_⟩
    rintro _ rfl
    refine Br.intro (fun f => ?_) fun f => ?_
    · have f : cellsI n ≤ c := of_decide_eq_true f
      exact bad (by unfold placeOk; rw [decide_eq_false (p := c < cellsI n) (by omega), Bool.and_false])
    · have f : ¬ c ≥ cellsI n := of_decide_eq_false f
      have ok : placeOk n c = true := by unfold placeOk; rw [decide_eq_true (by omega), decide_eq_true (by omega)]; rfl
      obtain ⟨h1, h2, h3, h4, h5, h6⟩ := place_facts ok
      obtain ⟨r1, r2, r3, r4, r5, r6⟩ := place_rng ok
      have w1 : IntKind.i64.wrap (n * n) = n * n := wi ⟨by omega, by omega⟩
      have d1 : c.tdiv (n * n) = c / (n * n) := Int.tdiv_eq_ediv_of_nonneg h3
      have d2 : c.tdiv n = c / n := Int.tdiv_eq_ediv_of_nonneg h3
      have d3 : 0 ≤ c / n ∧ c / n ≤ c := ⟨Int.ediv_nonneg h3 (by omega), Int.ediv_le_self _ h3⟩
      have w2 : IntKind.i64.wrap (c / n) = c / n := wi ⟨by omega, by have := h.2; unfold I64 at this; omega⟩
      have w3 : IntKind.i64.wrap (c / (n * n)) = c / (n * n) := wi ⟨by omega, by omega⟩
      refine ⟨by rw [w1]; omega, by omega, by omega, by omega, ?_⟩
      rw [w1, d1, w3, d2, w2, Int.tmod_eq_emod_of_nonneg h3, Int.tmod_eq_emod_of_nonneg d3.1]
      unfold placeR4; rw [if_pos ok]
end Go.Lift

/- Contracts of functions, of a seat. Own work. -/
set_option linter.unusedVariables false
set_option linter.unusedSimpArgs false
namespace Go.Lift
open Go.Proofs
def Dx_cube_good : Cx := ⟨tabOf Dtab, conOf [], DG⟩
theorem Dx_cube_good_ok : CxOk Tryd.prog Dx_cube_good := ⟨tabB_sound Dtab_ok, fun f c h => by cases h⟩
theorem Dat_cube_good : FnAt Tryd.prog 47 Tryd.f47.ntmps Tryd.f47.results.toList (Tryd.f47.body.getD .skip) := ⟨Tryd.f47, Tryd.func47, rfl, rfl, by simp, by decide⟩
theorem Deq_cube_good (a : Int) (post : Bool × Unit → Prop) : fnEval Dx_cube_good nHn Tryd.f47.ntmps Tryd.f47.results.toList (Tryd.f47.body.getD .skip) [.int .i64] [.snap .bool] (a, ()) post = Fx_cube_good  a post := by kernel_rfl
theorem Dh_cube_good : Dq_cube_good.holds Tryd.prog DG 47 :=
  detP Dx_cube_good_ok Dmixed nHn Dat_cube_good (F := fun x post => Fx_cube_good  x.1 post) (fun x post => Deq_cube_good x.1 post) fun x _ _ => Lx_cube_good  x.1
def Dx_cube_Cells : Cx := ⟨tabOf Dtab, conOf [(47, Dq_cube_good)], DG⟩
theorem Dx_cube_Cells_ok : CxOk Tryd.prog Dx_cube_Cells := ⟨tabB_sound Dtab_ok, conOf_sound ⟨Dh_cube_good, trivial⟩⟩
theorem Dat_cube_Cells : FnAt Tryd.prog 31 Tryd.f31.ntmps Tryd.f31.results.toList (Tryd.f31.body.getD .skip) := ⟨Tryd.f31, Tryd.func31, rfl, rfl, by simp, by decide⟩
theorem Deq_cube_Cells (a : Int) (post : Int × Unit → Prop) : fnEval Dx_cube_Cells nHn Tryd.f31.ntmps Tryd.f31.results.toList (Tryd.f31.body.getD .skip) [.int .i64] [.snap (.int .i64)] (a, ()) post = Fx_cube_Cells  a post := by kernel_rfl
theorem Dh_cube_Cells : Dq_cube_Cells.holds Tryd.prog DG 31 :=
  detP Dx_cube_Cells_ok Dmixed nHn Dat_cube_Cells (F := fun x post => Fx_cube_Cells  x.1 post) (fun x post => Deq_cube_Cells x.1 post) fun x h _ => Lx_cube_Cells  x.1 h
def Dx_cube_Place : Cx := ⟨tabOf Dtab, conOf [(31, Dq_cube_Cells)], DG⟩
theorem Dx_cube_Place_ok : CxOk Tryd.prog Dx_cube_Place := ⟨tabB_sound Dtab_ok, conOf_sound ⟨Dh_cube_Cells, trivial⟩⟩
theorem Dat_cube_Place : FnAt Tryd.prog 53 Tryd.f53.ntmps Tryd.f53.results.toList (Tryd.f53.body.getD .skip) := ⟨Tryd.f53, Tryd.func53, rfl, rfl, by simp, by decide⟩
theorem Deq_cube_Place (n : Int) (c : Int) (post : Int × Int × Int × Bool × Unit → Prop) : fnEval Dx_cube_Place nHn Tryd.f53.ntmps Tryd.f53.results.toList (Tryd.f53.body.getD .skip) [.int .i64, .int .i64] [.snap (.int .i64), .snap (.int .i64), .snap (.int .i64), .snap .bool] (n, c, ()) post = Fx_cube_Place  n c post := by kernel_rfl
theorem Dh_cube_Place : Dq_cube_Place.holds Tryd.prog DG 53 :=
  detP Dx_cube_Place_ok Dmixed nHn Dat_cube_Place (F := fun x post => Fx_cube_Place  x.1 x.2.1 post) (fun x post => Deq_cube_Place x.1 x.2.1 post) fun x h _ => Lx_cube_Place  x.1 x.2.1 h
end Go.Lift

/- Contracts of functions, of a seat. Own work. -/
set_option linter.unusedVariables false
set_option linter.unusedSimpArgs false
namespace Go.Lift
open Go.Proofs
def Dx_state_between : Cx := ⟨tabOf Dtab, conOf [(34, Dq_math_Float64bits)], DG⟩
theorem Dx_state_between_ok : CxOk Tryd.prog Dx_state_between := ⟨tabB_sound Dtab_ok, conOf_sound ⟨Dh_math_Float64bits, trivial⟩⟩
theorem Dat_state_between : FnAt Tryd.prog 50 Tryd.f50.ntmps Tryd.f50.results.toList (Tryd.f50.body.getD .skip) := ⟨Tryd.f50, Tryd.func50, rfl, rfl, by simp, by decide⟩
theorem Deq_state_between (a : Nat) (b : Nat) (c : Nat) (post : Bool × Unit → Prop) : fnEval Dx_state_between nHn Tryd.f50.ntmps Tryd.f50.results.toList (Tryd.f50.body.getD .skip) [.flt .f64, .flt .f64, .flt .f64] [.snap .bool] (a, b, c, ()) post = Fx_state_between  a b c post := by kernel_rfl
theorem Dh_state_between : Dq_state_between.holds Tryd.prog DG 50 :=
  detP Dx_state_between_ok Dmixed nHn Dat_state_between (F := fun x post => Fx_state_between  x.1 x.2.1 x.2.2.1 post) (fun x post => Deq_state_between x.1 x.2.1 x.2.2.1 post) fun x h _ => Lx_state_between  x.1 x.2.1 x.2.2.1 h
def Dx_state_floats : Cx := ⟨tabOf Dtab, conOf [(50, Dq_state_between)], DG⟩
theorem Dx_state_floats_ok : CxOk Tryd.prog Dx_state_floats := ⟨tabB_sound Dtab_ok, conOf_sound ⟨Dh_state_between, trivial⟩⟩
theorem Dat_state_floats : FnAt Tryd.prog 32 Tryd.f32.ntmps Tryd.f32.results.toList (Tryd.f32.body.getD .skip) := ⟨Tryd.f32, Tryd.func32, rfl, rfl, by simp, by decide⟩
theorem Deq_state_floats (a : List Nat) (b : Nat) (post : Int × Unit → Prop) : fnEvalI Dx_state_floats Dhn_state_floats (callLvl Dx_state_floats Dfns_idxF 6) Tryd.f32.ntmps Tryd.f32.results.toList (Tryd.f32.body.getD .skip) [.slice (.flt .f64), .flt .f64] [.snap (.int .i64)] (a, b, ()) post = Fx_state_floats 47 a b post := by kernel_rfl
theorem Dh_state_floats : Dq_state_floats.holds Tryd.prog DG 32 :=
  detPI Dx_state_floats_ok Dmixed Dhn_state_floats (callLvl_ok Dx_state_floats_ok Dmixed Dfns_idxF_ok 6) Dat_state_floats (F := fun x post => Fx_state_floats 47 x.1 x.2.1 post) (fun x post => Deq_state_floats x.1 x.2.1 post) fun x h w => Lx_state_floats 47 x.1 x.2.1 h w
def Dx_state_quanta : Cx := ⟨tabOf Dtab, conOf [], DG⟩
theorem Dx_state_quanta_ok : CxOk Tryd.prog Dx_state_quanta := ⟨tabB_sound Dtab_ok, fun f c h => by cases h⟩
theorem Dat_state_quanta : FnAt Tryd.prog 33 Tryd.f33.ntmps Tryd.f33.results.toList (Tryd.f33.body.getD .skip) := ⟨Tryd.f33, Tryd.func33, rfl, rfl, by simp, by decide⟩
theorem Deq_state_quanta (a : List Int) (b : Int) (post : Int × Unit → Prop) : fnEvalI Dx_state_quanta Dhn_state_quanta (callLvl Dx_state_quanta Dfns_idxI 6) Tryd.f33.ntmps Tryd.f33.results.toList (Tryd.f33.body.getD .skip) [.slice (.int .i64), .int .i64] [.snap (.int .i64)] (a, b, ()) post = Fx_state_quanta 2 a b post := by kernel_rfl
theorem Dh_state_quanta : Dq_state_quanta.holds Tryd.prog DG 33 :=
  detPI Dx_state_quanta_ok Dmixed Dhn_state_quanta (callLvl_ok Dx_state_quanta_ok Dmixed Dfns_idxI_ok 6) Dat_state_quanta (F := fun x post => Fx_state_quanta 2 x.1 x.2.1 post) (fun x post => Deq_state_quanta x.1 x.2.1 post) fun x h w => Lx_state_quanta 2 x.1 x.2.1 h w
def Dx_state_Check : Cx := ⟨tabOf Dtab, conOf [(31, Dq_cube_Cells), (32, Dq_state_floats), (33, Dq_state_quanta)], DG⟩
theorem Dx_state_Check_ok : CxOk Tryd.prog Dx_state_Check := ⟨tabB_sound Dtab_ok, conOf_sound ⟨Dh_cube_Cells, Dh_state_floats, Dh_state_quanta, trivial⟩⟩
theorem Dat_state_Check : FnAt Tryd.prog 16 Tryd.f16.ntmps Tryd.f16.results.toList (Tryd.f16.body.getD .skip) := ⟨Tryd.f16, Tryd.func16, rfl, rfl, by simp, by decide⟩
theorem Deq_state_Check (n : Int) (s : (List Nat) × (List Int) × (List Int) × (List Nat) × Int × Int) (post : Int × Int × Unit → Prop) : fnEval Dx_state_Check Dhn_state_Check Tryd.f16.ntmps Tryd.f16.results.toList (Tryd.f16.body.getD .skip) [.int .i64, kSea] [.snap (.int .i64), .snap (.int .i64)] (n, s, ()) post = Fx_state_Check  n s post := by kernel_rfl
theorem Dh_state_Check : Dq_state_Check.holds Tryd.prog DG 16 :=
  detP Dx_state_Check_ok Dmixed Dhn_state_Check Dat_state_Check (F := fun x post => Fx_state_Check  x.1 x.2.1 post) (fun x post => Deq_state_Check x.1 x.2.1 post) fun x h w => Lx_state_Check  x.1 x.2.1 h w
end Go.Lift

/- Own work. -/
set_option linter.unusedVariables false
set_option linter.unusedSimpArgs false
namespace Go.Lift
def Fx_geom_ratio := fun (a b : Int) (post : Nat × Unit → Prop) => ∀ (a_1 : Nat), FRes Go.FloatKind.f64 (Go.FloatKind.f64.format.div (Go.FloatKind.f64.nearest a)
  (Go.FloatKind.f64.nearest b)) a_1 → post (a_1, ())
theorem Lx_geom_ratio (a : Int) (b : Int) (h : WRatio a b) : Fx_geom_ratio  a b (fun r => r = ratioR a b) := by
  intro r hr
  exact congrArg r1 (div_ofI h.1 h.2.1 h.2.2 hr)
def Fx_geom_point := fun (ty72 ty98 : Nat) (f : Int) (s t : Nat) (post : (Nat × Nat × Nat) × Unit → Prop) => ∃ (post_1 : Unit → List Nat × Unit → Prop), (∃ (h : (0 : Int) ≤ (0 :
  Int) ∧ (0 : Int) < (↑(3 : Nat) : Int)), ∃ (h : (0 : Int) ≤ f ∧ f < (↑(6 : Nat) : Int)), ∃ (h : (0 : Int) ≤ (0 : Int) ∧ (0 : Int) < (↑(3 : Nat) : Int)), ∃ (h : (0 : Int) ≤ (0 :
  Int) ∧ (0 : Int) < (↑(3 : Nat) : Int)), Br (List.getD (List.getD (framesL.getD f.toNat (K.arr (3 : Nat) (K.arr (3 : Nat) (K.int IntKind.i64))).dflt) (Int.toNat (0 : Int)) (K.arr
  (3 : Nat) (K.int IntKind.i64)).dflt) (Int.toNat (0 : Int)) (0 : Int) == (1 : Int)) (∃ (h : True), ∃ (h : (0 : Int) ≤ (0 : Int) ∧ (0 : Int) < (↑(3 : Nat) : Int) ∧ (3 : Nat) ≤
  (List.replicate (3 : Nat) (0 : Nat)).length), HIs [HObj.box Md.rw ty72 [SV.val (Go.Value.float Go.FloatKind.f64 (0 : Nat)), SV.val (Go.Value.float Go.FloatKind.f64 (0 : Nat)),
  SV.val (Go.Value.float Go.FloatKind.f64 (0 : Nat))], HObj.row Md.rw ty98 (K.flt Go.FloatKind.f64) ((List.replicate (3 : Nat) (0 : Nat)).set (Int.toNat (0 : Int)) (canonR
  ([(4607182418800017408 : Nat), s, t].getD (Int.toNat (0 : Int)) (0 : Nat))).fst)] [HObj.box Md.rw ty72 [SV.val (Go.Value.float Go.FloatKind.f64 (0 : Nat)), SV.val (Go.Value.float
  Go.FloatKind.f64 (0 : Nat)), SV.val (Go.Value.float Go.FloatKind.f64 (0 : Nat))], HObj.row Md.rw ty98 (K.flt Go.FloatKind.f64) ((List.replicate (3 : Nat) (0 : Nat)).set (Int.toNat
  (0 : Int)) (canonR ([(4607182418800017408 : Nat), s, t].getD (Int.toNat (0 : Int)) (0 : Nat))).fst)] ∧ post_1 () ((List.replicate (3 : Nat) (0 : Nat)).set (Int.toNat (0 : Int))
  (canonR ([(4607182418800017408 : Nat), s, t].getD (Int.toNat (0 : Int)) (0 : Nat))).fst, ())) (Br (List.getD (List.getD (framesL.getD f.toNat (K.arr (3 : Nat) (K.arr (3 : Nat)
  (K.int IntKind.i64))).dflt) (Int.toNat (0 : Int)) (K.arr (3 : Nat) (K.int IntKind.i64)).dflt) (Int.toNat (0 : Int)) (0 : Int) == (-1 : Int)) (∃ (h : True), ∃ (h : (0 : Int) ≤ (0 :
  Int) ∧ (0 : Int) < (↑(3 : Nat) : Int) ∧ (3 : Nat) ≤ (List.replicate (3 : Nat) (0 : Nat)).length), HIs [HObj.box Md.rw ty72 [SV.val (Go.Value.float Go.FloatKind.f64 (0 : Nat)),
  SV.val (Go.Value.float Go.FloatKind.f64 (0 : Nat)), SV.val (Go.Value.float Go.FloatKind.f64 (0 : Nat))], HObj.row Md.rw ty98 (K.flt Go.FloatKind.f64) ((List.replicate (3 : Nat) (0
  : Nat)).set (Int.toNat (0 : Int)) (canonR (Go.Op.negFloat Go.FloatKind.f64 ([(4607182418800017408 : Nat), s, t].getD (Int.toNat (0 : Int)) (0 : Nat)))).fst)] [HObj.box Md.rw ty72
  [SV.val (Go.Value.float Go.FloatKind.f64 (0 : Nat)), SV.val (Go.Value.float Go.FloatKind.f64 (0 : Nat)), SV.val (Go.Value.float Go.FloatKind.f64 (0 : Nat))], HObj.row Md.rw ty98
  (K.flt Go.FloatKind.f64) ((List.replicate (3 : Nat) (0 : Nat)).set (Int.toNat (0 : Int)) (canonR (Go.Op.negFloat Go.FloatKind.f64 ([(4607182418800017408 : Nat), s, t].getD
  (Int.toNat (0 : Int)) (0 : Nat)))).fst)] ∧ post_1 () ((List.replicate (3 : Nat) (0 : Nat)).set (Int.toNat (0 : Int)) (canonR (Go.Op.negFloat Go.FloatKind.f64
  ([(4607182418800017408 : Nat), s, t].getD (Int.toNat (0 : Int)) (0 : Nat)))).fst, ())) (HIs [HObj.box Md.rw ty72 [SV.val (Go.Value.float Go.FloatKind.f64 (0 : Nat)), SV.val
  (Go.Value.float Go.FloatKind.f64 (0 : Nat)), SV.val (Go.Value.float Go.FloatKind.f64 (0 : Nat))], HObj.row Md.rw ty98 (K.flt Go.FloatKind.f64) (List.replicate (3 : Nat) (0 :
  Nat))] [HObj.box Md.rw ty72 [SV.val (Go.Value.float Go.FloatKind.f64 (0 : Nat)), SV.val (Go.Value.float Go.FloatKind.f64 (0 : Nat)), SV.val (Go.Value.float Go.FloatKind.f64 (0 :
  Nat))], HObj.row Md.rw ty98 (K.flt Go.FloatKind.f64) (List.replicate (3 : Nat) (0 : Nat))] ∧ post_1 () (List.replicate (3 : Nat) (0 : Nat), ())))) ∧ ∀ (x : Unit) (y : List Nat ×
  Unit), post_1 x y → ∃ (post_2 : Unit → List Nat × Unit → Prop), (∃ (h : (0 : Int) ≤ IntKind.i64.wrap ((0 : Int) + (1 : Int)) ∧ IntKind.i64.wrap ((0 : Int) + (1 : Int)) < (↑(3 :
  Nat) : Int)), ∃ (h : (0 : Int) ≤ f ∧ f < (↑(6 : Nat) : Int)), ∃ (h : (0 : Int) ≤ IntKind.i64.wrap ((0 : Int) + (1 : Int)) ∧ IntKind.i64.wrap ((0 : Int) + (1 : Int)) < (↑(3 : Nat)
  : Int)), ∃ (h : (0 : Int) ≤ (0 : Int) ∧ (0 : Int) < (↑(3 : Nat) : Int)), Br (List.getD (List.getD (framesL.getD f.toNat (K.arr (3 : Nat) (K.arr (3 : Nat) (K.int
  IntKind.i64))).dflt) (IntKind.i64.wrap ((0 : Int) + (1 : Int))).toNat (K.arr (3 : Nat) (K.int IntKind.i64)).dflt) (Int.toNat (0 : Int)) (0 : Int) == (1 : Int)) (∃ (h : True), ∃ (h
  : (0 : Int) ≤ (0 : Int) ∧ (0 : Int) < (↑(3 : Nat) : Int) ∧ (3 : Nat) ≤ y.fst.length), HIs [HObj.box Md.rw ty72 [SV.val (Go.Value.float Go.FloatKind.f64 (0 : Nat)), SV.val
  (Go.Value.float Go.FloatKind.f64 (0 : Nat)), SV.val (Go.Value.float Go.FloatKind.f64 (0 : Nat))], HObj.row Md.rw ty98 (K.flt Go.FloatKind.f64) (y.fst.set (Int.toNat (0 : Int))
  (canonR ([(4607182418800017408 : Nat), s, t].getD (IntKind.i64.wrap ((0 : Int) + (1 : Int))).toNat (0 : Nat))).fst)] [HObj.box Md.rw ty72 [SV.val (Go.Value.float Go.FloatKind.f64
  (0 : Nat)), SV.val (Go.Value.float Go.FloatKind.f64 (0 : Nat)), SV.val (Go.Value.float Go.FloatKind.f64 (0 : Nat))], HObj.row Md.rw ty98 (K.flt Go.FloatKind.f64) (y.fst.set
  (Int.toNat (0 : Int)) (canonR ([(4607182418800017408 : Nat), s, t].getD (IntKind.i64.wrap ((0 : Int) + (1 : Int))).toNat (0 : Nat))).fst)] ∧ post_2 () (y.fst.set (Int.toNat (0 :
  Int)) (canonR ([(4607182418800017408 : Nat), s, t].getD (IntKind.i64.wrap ((0 : Int) + (1 : Int))).toNat (0 : Nat))).fst, ())) (Br (List.getD (List.getD (framesL.getD f.toNat
  (K.arr (3 : Nat) (K.arr (3 : Nat) (K.int IntKind.i64))).dflt) (IntKind.i64.wrap ((0 : Int) + (1 : Int))).toNat (K.arr (3 : Nat) (K.int IntKind.i64)).dflt) (Int.toNat (0 : Int)) (0
  : Int) == (-1 : Int)) (∃ (h : True), ∃ (h : (0 : Int) ≤ (0 : Int) ∧ (0 : Int) < (↑(3 : Nat) : Int) ∧ (3 : Nat) ≤ y.fst.length), HIs [HObj.box Md.rw ty72 [SV.val (Go.Value.float
  Go.FloatKind.f64 (0 : Nat)), SV.val (Go.Value.float Go.FloatKind.f64 (0 : Nat)), SV.val (Go.Value.float Go.FloatKind.f64 (0 : Nat))], HObj.row Md.rw ty98 (K.flt Go.FloatKind.f64)
  (y.fst.set (Int.toNat (0 : Int)) (canonR (Go.Op.negFloat Go.FloatKind.f64 ([(4607182418800017408 : Nat), s, t].getD (IntKind.i64.wrap ((0 : Int) + (1 : Int))).toNat (0 :
  Nat)))).fst)] [HObj.box Md.rw ty72 [SV.val (Go.Value.float Go.FloatKind.f64 (0 : Nat)), SV.val (Go.Value.float Go.FloatKind.f64 (0 : Nat)), SV.val (Go.Value.float Go.FloatKind.f64
  (0 : Nat))], HObj.row Md.rw ty98 (K.flt Go.FloatKind.f64) (y.fst.set (Int.toNat (0 : Int)) (canonR (Go.Op.negFloat Go.FloatKind.f64 ([(4607182418800017408 : Nat), s, t].getD
  (IntKind.i64.wrap ((0 : Int) + (1 : Int))).toNat (0 : Nat)))).fst)] ∧ post_2 () (y.fst.set (Int.toNat (0 : Int)) (canonR (Go.Op.negFloat Go.FloatKind.f64 ([(4607182418800017408 :
  Nat), s, t].getD (IntKind.i64.wrap ((0 : Int) + (1 : Int))).toNat (0 : Nat)))).fst, ())) (HIs [HObj.box Md.rw ty72 [SV.val (Go.Value.float Go.FloatKind.f64 (0 : Nat)), SV.val
  (Go.Value.float Go.FloatKind.f64 (0 : Nat)), SV.val (Go.Value.float Go.FloatKind.f64 (0 : Nat))], HObj.row Md.rw ty98 (K.flt Go.FloatKind.f64) y.fst] [HObj.box Md.rw ty72 [SV.val
  (Go.Value.float Go.FloatKind.f64 (0 : Nat)), SV.val (Go.Value.float Go.FloatKind.f64 (0 : Nat)), SV.val (Go.Value.float Go.FloatKind.f64 (0 : Nat))], HObj.row Md.rw ty98 (K.flt
  Go.FloatKind.f64) y.fst] ∧ post_2 () (y.fst, ())))) ∧ ∀ (x : Unit) (y : List Nat × Unit), post_2 x y → ∃ (post_3 : Unit → List Nat × Unit → Prop), (∃ (h : (0 : Int) ≤
  IntKind.i64.wrap (IntKind.i64.wrap ((0 : Int) + (1 : Int)) + (1 : Int)) ∧ IntKind.i64.wrap (IntKind.i64.wrap ((0 : Int) + (1 : Int)) + (1 : Int)) < (↑(3 : Nat) : Int)), ∃ (h : (0
  : Int) ≤ f ∧ f < (↑(6 : Nat) : Int)), ∃ (h : (0 : Int) ≤ IntKind.i64.wrap (IntKind.i64.wrap ((0 : Int) + (1 : Int)) + (1 : Int)) ∧ IntKind.i64.wrap (IntKind.i64.wrap ((0 : Int) +
  (1 : Int)) + (1 : Int)) < (↑(3 : Nat) : Int)), ∃ (h : (0 : Int) ≤ (0 : Int) ∧ (0 : Int) < (↑(3 : Nat) : Int)), Br (List.getD (List.getD (framesL.getD f.toNat (K.arr (3 : Nat)
  (K.arr (3 : Nat) (K.int IntKind.i64))).dflt) (IntKind.i64.wrap (IntKind.i64.wrap ((0 : Int) + (1 : Int)) + (1 : Int))).toNat (K.arr (3 : Nat) (K.int IntKind.i64)).dflt) (Int.toNat
  (0 : Int)) (0 : Int) == (1 : Int)) (∃ (h : True), ∃ (h : (0 : Int) ≤ (0 : Int) ∧ (0 : Int) < (↑(3 : Nat) : Int) ∧ (3 : Nat) ≤ y.fst.length), HIs [HObj.box Md.rw ty72 [SV.val
  (Go.Value.float Go.FloatKind.f64 (0 : Nat)), SV.val (Go.Value.float Go.FloatKind.f64 (0 : Nat)), SV.val (Go.Value.float Go.FloatKind.f64 (0 : Nat))], HObj.row Md.rw ty98 (K.flt
  Go.FloatKind.f64) (y.fst.set (Int.toNat (0 : Int)) (canonR ([(4607182418800017408 : Nat), s, t].getD (IntKind.i64.wrap (IntKind.i64.wrap ((0 : Int) + (1 : Int)) + (1 :
  Int))).toNat (0 : Nat))).fst)] [HObj.box Md.rw ty72 [SV.val (Go.Value.float Go.FloatKind.f64 (0 : Nat)), SV.val (Go.Value.float Go.FloatKind.f64 (0 : Nat)), SV.val (Go.Value.float
  Go.FloatKind.f64 (0 : Nat))], HObj.row Md.rw ty98 (K.flt Go.FloatKind.f64) (y.fst.set (Int.toNat (0 : Int)) (canonR ([(4607182418800017408 : Nat), s, t].getD (IntKind.i64.wrap
  (IntKind.i64.wrap ((0 : Int) + (1 : Int)) + (1 : Int))).toNat (0 : Nat))).fst)] ∧ post_3 () (y.fst.set (Int.toNat (0 : Int)) (canonR ([(4607182418800017408 : Nat), s, t].getD
  (IntKind.i64.wrap (IntKind.i64.wrap ((0 : Int) + (1 : Int)) + (1 : Int))).toNat (0 : Nat))).fst, ())) (Br (List.getD (List.getD (framesL.getD f.toNat (K.arr (3 : Nat) (K.arr (3 :
  Nat) (K.int IntKind.i64))).dflt) (IntKind.i64.wrap (IntKind.i64.wrap ((0 : Int) + (1 : Int)) + (1 : Int))).toNat (K.arr (3 : Nat) (K.int IntKind.i64)).dflt) (Int.toNat (0 : Int))
  (0 : Int) == (-1 : Int)) (∃ (h : True), ∃ (h : (0 : Int) ≤ (0 : Int) ∧ (0 : Int) < (↑(3 : Nat) : Int) ∧ (3 : Nat) ≤ y.fst.length), HIs [HObj.box Md.rw ty72 [SV.val (Go.Value.float
  Go.FloatKind.f64 (0 : Nat)), SV.val (Go.Value.float Go.FloatKind.f64 (0 : Nat)), SV.val (Go.Value.float Go.FloatKind.f64 (0 : Nat))], HObj.row Md.rw ty98 (K.flt Go.FloatKind.f64)
  (y.fst.set (Int.toNat (0 : Int)) (canonR (Go.Op.negFloat Go.FloatKind.f64 ([(4607182418800017408 : Nat), s, t].getD (IntKind.i64.wrap (IntKind.i64.wrap ((0 : Int) + (1 : Int)) +
  (1 : Int))).toNat (0 : Nat)))).fst)] [HObj.box Md.rw ty72 [SV.val (Go.Value.float Go.FloatKind.f64 (0 : Nat)), SV.val (Go.Value.float Go.FloatKind.f64 (0 : Nat)), SV.val
  (Go.Value.float Go.FloatKind.f64 (0 : Nat))], HObj.row Md.rw ty98 (K.flt Go.FloatKind.f64) (y.fst.set (Int.toNat (0 : Int)) (canonR (Go.Op.negFloat Go.FloatKind.f64
  ([(4607182418800017408 : Nat), s, t].getD (IntKind.i64.wrap (IntKind.i64.wrap ((0 : Int) + (1 : Int)) + (1 : Int))).toNat (0 : Nat)))).fst)] ∧ post_3 () (y.fst.set (Int.toNat (0 :
  Int)) (canonR (Go.Op.negFloat Go.FloatKind.f64 ([(4607182418800017408 : Nat), s, t].getD (IntKind.i64.wrap (IntKind.i64.wrap ((0 : Int) + (1 : Int)) + (1 : Int))).toNat (0 :
  Nat)))).fst, ())) (HIs [HObj.box Md.rw ty72 [SV.val (Go.Value.float Go.FloatKind.f64 (0 : Nat)), SV.val (Go.Value.float Go.FloatKind.f64 (0 : Nat)), SV.val (Go.Value.float
  Go.FloatKind.f64 (0 : Nat))], HObj.row Md.rw ty98 (K.flt Go.FloatKind.f64) y.fst] [HObj.box Md.rw ty72 [SV.val (Go.Value.float Go.FloatKind.f64 (0 : Nat)), SV.val (Go.Value.float
  Go.FloatKind.f64 (0 : Nat)), SV.val (Go.Value.float Go.FloatKind.f64 (0 : Nat))], HObj.row Md.rw ty98 (K.flt Go.FloatKind.f64) y.fst] ∧ post_3 () (y.fst, ())))) ∧ ∀ (x : Unit) (y
  : List Nat × Unit), post_3 x y → ∃ (post_4 : Unit → List Nat × Unit → Prop), (∃ (h : (0 : Int) ≤ (0 : Int) ∧ (0 : Int) < (↑(3 : Nat) : Int)), ∃ (h : (0 : Int) ≤ f ∧ f < (↑(6 :
  Nat) : Int)), ∃ (h : (0 : Int) ≤ (0 : Int) ∧ (0 : Int) < (↑(3 : Nat) : Int)), ∃ (h : (0 : Int) ≤ IntKind.i64.wrap ((0 : Int) + (1 : Int)) ∧ IntKind.i64.wrap ((0 : Int) + (1 :
  Int)) < (↑(3 : Nat) : Int)), Br (List.getD (List.getD (framesL.getD f.toNat (K.arr (3 : Nat) (K.arr (3 : Nat) (K.int IntKind.i64))).dflt) (Int.toNat (0 : Int)) (K.arr (3 : Nat)
  (K.int IntKind.i64)).dflt) (IntKind.i64.wrap ((0 : Int) + (1 : Int))).toNat (0 : Int) == (1 : Int)) (∃ (h : True), ∃ (h : (0 : Int) ≤ IntKind.i64.wrap ((0 : Int) + (1 : Int)) ∧
  IntKind.i64.wrap ((0 : Int) + (1 : Int)) < (↑(3 : Nat) : Int) ∧ (3 : Nat) ≤ y.fst.length), HIs [HObj.box Md.rw ty72 [SV.val (Go.Value.float Go.FloatKind.f64 (0 : Nat)), SV.val
  (Go.Value.float Go.FloatKind.f64 (0 : Nat)), SV.val (Go.Value.float Go.FloatKind.f64 (0 : Nat))], HObj.row Md.rw ty98 (K.flt Go.FloatKind.f64) (y.fst.set (IntKind.i64.wrap ((0 :
  Int) + (1 : Int))).toNat (canonR ([(4607182418800017408 : Nat), s, t].getD (Int.toNat (0 : Int)) (0 : Nat))).fst)] [HObj.box Md.rw ty72 [SV.val (Go.Value.float Go.FloatKind.f64 (0
  : Nat)), SV.val (Go.Value.float Go.FloatKind.f64 (0 : Nat)), SV.val (Go.Value.float Go.FloatKind.f64 (0 : Nat))], HObj.row Md.rw ty98 (K.flt Go.FloatKind.f64) (y.fst.set
  (IntKind.i64.wrap ((0 : Int) + (1 : Int))).toNat (canonR ([(4607182418800017408 : Nat), s, t].getD (Int.toNat (0 : Int)) (0 : Nat))).fst)] ∧ post_4 () (y.fst.set (IntKind.i64.wrap
  ((0 : Int) + (1 : Int))).toNat (canonR ([(4607182418800017408 : Nat), s, t].getD (Int.toNat (0 : Int)) (0 : Nat))).fst, ())) (Br (List.getD (List.getD (framesL.getD f.toNat (K.arr
  (3 : Nat) (K.arr (3 : Nat) (K.int IntKind.i64))).dflt) (Int.toNat (0 : Int)) (K.arr (3 : Nat) (K.int IntKind.i64)).dflt) (IntKind.i64.wrap ((0 : Int) + (1 : Int))).toNat (0 : Int)
  == (-1 : Int)) (∃ (h : True), ∃ (h : (0 : Int) ≤ IntKind.i64.wrap ((0 : Int) + (1 : Int)) ∧ IntKind.i64.wrap ((0 : Int) + (1 : Int)) < (↑(3 : Nat) : Int) ∧ (3 : Nat) ≤
  y.fst.length), HIs [HObj.box Md.rw ty72 [SV.val (Go.Value.float Go.FloatKind.f64 (0 : Nat)), SV.val (Go.Value.float Go.FloatKind.f64 (0 : Nat)), SV.val (Go.Value.float
  Go.FloatKind.f64 (0 : Nat))], HObj.row Md.rw ty98 (K.flt Go.FloatKind.f64) (y.fst.set (IntKind.i64.wrap ((0 : Int) + (1 : Int))).toNat (canonR (Go.Op.negFloat Go.FloatKind.f64
  ([(4607182418800017408 : Nat), s, t].getD (Int.toNat (0 : Int)) (0 : Nat)))).fst)] [HObj.box Md.rw ty72 [SV.val (Go.Value.float Go.FloatKind.f64 (0 : Nat)), SV.val (Go.Value.float
  Go.FloatKind.f64 (0 : Nat)), SV.val (Go.Value.float Go.FloatKind.f64 (0 : Nat))], HObj.row Md.rw ty98 (K.flt Go.FloatKind.f64) (y.fst.set (IntKind.i64.wrap ((0 : Int) + (1 :
  Int))).toNat (canonR (Go.Op.negFloat Go.FloatKind.f64 ([(4607182418800017408 : Nat), s, t].getD (Int.toNat (0 : Int)) (0 : Nat)))).fst)] ∧ post_4 () (y.fst.set (IntKind.i64.wrap
  ((0 : Int) + (1 : Int))).toNat (canonR (Go.Op.negFloat Go.FloatKind.f64 ([(4607182418800017408 : Nat), s, t].getD (Int.toNat (0 : Int)) (0 : Nat)))).fst, ())) (HIs [HObj.box Md.rw
  ty72 [SV.val (Go.Value.float Go.FloatKind.f64 (0 : Nat)), SV.val (Go.Value.float Go.FloatKind.f64 (0 : Nat)), SV.val (Go.Value.float Go.FloatKind.f64 (0 : Nat))], HObj.row Md.rw
  ty98 (K.flt Go.FloatKind.f64) y.fst] [HObj.box Md.rw ty72 [SV.val (Go.Value.float Go.FloatKind.f64 (0 : Nat)), SV.val (Go.Value.float Go.FloatKind.f64 (0 : Nat)), SV.val
  (Go.Value.float Go.FloatKind.f64 (0 : Nat))], HObj.row Md.rw ty98 (K.flt Go.FloatKind.f64) y.fst] ∧ post_4 () (y.fst, ())))) ∧ ∀ (x : Unit) (y : List Nat × Unit), post_4 x y → ∃
  (post_5 : Unit → List Nat × Unit → Prop), (∃ (h : (0 : Int) ≤ IntKind.i64.wrap ((0 : Int) + (1 : Int)) ∧ IntKind.i64.wrap ((0 : Int) + (1 : Int)) < (↑(3 : Nat) : Int)), ∃ (h : (0
  : Int) ≤ f ∧ f < (↑(6 : Nat) : Int)), ∃ (h : (0 : Int) ≤ IntKind.i64.wrap ((0 : Int) + (1 : Int)) ∧ IntKind.i64.wrap ((0 : Int) + (1 : Int)) < (↑(3 : Nat) : Int)), ∃ (h : (0 :
  Int) ≤ IntKind.i64.wrap ((0 : Int) + (1 : Int)) ∧ IntKind.i64.wrap ((0 : Int) + (1 : Int)) < (↑(3 : Nat) : Int)), Br (List.getD (List.getD (framesL.getD f.toNat (K.arr (3 : Nat)
  (K.arr (3 : Nat) (K.int IntKind.i64))).dflt) (IntKind.i64.wrap ((0 : Int) + (1 : Int))).toNat (K.arr (3 : Nat) (K.int IntKind.i64)).dflt) (IntKind.i64.wrap ((0 : Int) + (1 :
  Int))).toNat (0 : Int) == (1 : Int)) (∃ (h : True), ∃ (h : (0 : Int) ≤ IntKind.i64.wrap ((0 : Int) + (1 : Int)) ∧ IntKind.i64.wrap ((0 : Int) + (1 : Int)) < (↑(3 : Nat) : Int) ∧
  (3 : Nat) ≤ y.fst.length), HIs [HObj.box Md.rw ty72 [SV.val (Go.Value.float Go.FloatKind.f64 (0 : Nat)), SV.val (Go.Value.float Go.FloatKind.f64 (0 : Nat)), SV.val (Go.Value.float
  Go.FloatKind.f64 (0 : Nat))], HObj.row Md.rw ty98 (K.flt Go.FloatKind.f64) (y.fst.set (IntKind.i64.wrap ((0 : Int) + (1 : Int))).toNat (canonR ([(4607182418800017408 : Nat), s,
  t].getD (IntKind.i64.wrap ((0 : Int) + (1 : Int))).toNat (0 : Nat))).fst)] [HObj.box Md.rw ty72 [SV.val (Go.Value.float Go.FloatKind.f64 (0 : Nat)), SV.val (Go.Value.float
  Go.FloatKind.f64 (0 : Nat)), SV.val (Go.Value.float Go.FloatKind.f64 (0 : Nat))], HObj.row Md.rw ty98 (K.flt Go.FloatKind.f64) (y.fst.set (IntKind.i64.wrap ((0 : Int) + (1 :
  Int))).toNat (canonR ([(4607182418800017408 : Nat), s, t].getD (IntKind.i64.wrap ((0 : Int) + (1 : Int))).toNat (0 : Nat))).fst)] ∧ post_5 () (y.fst.set (IntKind.i64.wrap ((0 :
  Int) + (1 : Int))).toNat (canonR ([(4607182418800017408 : Nat), s, t].getD (IntKind.i64.wrap ((0 : Int) + (1 : Int))).toNat (0 : Nat))).fst, ())) (Br (List.getD (List.getD
  (framesL.getD f.toNat (K.arr (3 : Nat) (K.arr (3 : Nat) (K.int IntKind.i64))).dflt) (IntKind.i64.wrap ((0 : Int) + (1 : Int))).toNat (K.arr (3 : Nat) (K.int IntKind.i64)).dflt)
  (IntKind.i64.wrap ((0 : Int) + (1 : Int))).toNat (0 : Int) == (-1 : Int)) (∃ (h : True), ∃ (h : (0 : Int) ≤ IntKind.i64.wrap ((0 : Int) + (1 : Int)) ∧ IntKind.i64.wrap ((0 : Int)
  + (1 : Int)) < (↑(3 : Nat) : Int) ∧ (3 : Nat) ≤ y.fst.length), HIs [HObj.box Md.rw ty72 [SV.val (Go.Value.float Go.FloatKind.f64 (0 : Nat)), SV.val (Go.Value.float
  Go.FloatKind.f64 (0 : Nat)), SV.val (Go.Value.float Go.FloatKind.f64 (0 : Nat))], HObj.row Md.rw ty98 (K.flt Go.FloatKind.f64) (y.fst.set (IntKind.i64.wrap ((0 : Int) + (1 :
  Int))).toNat (canonR (Go.Op.negFloat Go.FloatKind.f64 ([(4607182418800017408 : Nat), s, t].getD (IntKind.i64.wrap ((0 : Int) + (1 : Int))).toNat (0 : Nat)))).fst)] [HObj.box Md.rw
  ty72 [SV.val (Go.Value.float Go.FloatKind.f64 (0 : Nat)), SV.val (Go.Value.float Go.FloatKind.f64 (0 : Nat)), SV.val (Go.Value.float Go.FloatKind.f64 (0 : Nat))], HObj.row Md.rw
  ty98 (K.flt Go.FloatKind.f64) (y.fst.set (IntKind.i64.wrap ((0 : Int) + (1 : Int))).toNat (canonR (Go.Op.negFloat Go.FloatKind.f64 ([(4607182418800017408 : Nat), s, t].getD
  (IntKind.i64.wrap ((0 : Int) + (1 : Int))).toNat (0 : Nat)))).fst)] ∧ post_5 () (y.fst.set (IntKind.i64.wrap ((0 : Int) + (1 : Int))).toNat (canonR (Go.Op.negFloat
  Go.FloatKind.f64 ([(4607182418800017408 : Nat), s, t].getD (IntKind.i64.wrap ((0 : Int) + (1 : Int))).toNat (0 : Nat)))).fst, ())) (HIs [HObj.box Md.rw ty72 [SV.val
  (Go.Value.float Go.FloatKind.f64 (0 : Nat)), SV.val (Go.Value.float Go.FloatKind.f64 (0 : Nat)), SV.val (Go.Value.float Go.FloatKind.f64 (0 : Nat))], HObj.row Md.rw ty98 (K.flt
  Go.FloatKind.f64) y.fst] [HObj.box Md.rw ty72 [SV.val (Go.Value.float Go.FloatKind.f64 (0 : Nat)), SV.val (Go.Value.float Go.FloatKind.f64 (0 : Nat)), SV.val (Go.Value.float
  Go.FloatKind.f64 (0 : Nat))], HObj.row Md.rw ty98 (K.flt Go.FloatKind.f64) y.fst] ∧ post_5 () (y.fst, ())))) ∧ ∀ (x : Unit) (y : List Nat × Unit), post_5 x y → ∃ (post_6 : Unit →
  List Nat × Unit → Prop), (∃ (h : (0 : Int) ≤ IntKind.i64.wrap (IntKind.i64.wrap ((0 : Int) + (1 : Int)) + (1 : Int)) ∧ IntKind.i64.wrap (IntKind.i64.wrap ((0 : Int) + (1 : Int)) +
  (1 : Int)) < (↑(3 : Nat) : Int)), ∃ (h : (0 : Int) ≤ f ∧ f < (↑(6 : Nat) : Int)), ∃ (h : (0 : Int) ≤ IntKind.i64.wrap (IntKind.i64.wrap ((0 : Int) + (1 : Int)) + (1 : Int)) ∧
  IntKind.i64.wrap (IntKind.i64.wrap ((0 : Int) + (1 : Int)) + (1 : Int)) < (↑(3 : Nat) : Int)), ∃ (h : (0 : Int) ≤ IntKind.i64.wrap ((0 : Int) + (1 : Int)) ∧ IntKind.i64.wrap ((0 :
  Int) + (1 : Int)) < (↑(3 : Nat) : Int)), Br (List.getD (List.getD (framesL.getD f.toNat (K.arr (3 : Nat) (K.arr (3 : Nat) (K.int IntKind.i64))).dflt) (IntKind.i64.wrap
  (IntKind.i64.wrap ((0 : Int) + (1 : Int)) + (1 : Int))).toNat (K.arr (3 : Nat) (K.int IntKind.i64)).dflt) (IntKind.i64.wrap ((0 : Int) + (1 : Int))).toNat (0 : Int) == (1 : Int))
  (∃ (h : True), ∃ (h : (0 : Int) ≤ IntKind.i64.wrap ((0 : Int) + (1 : Int)) ∧ IntKind.i64.wrap ((0 : Int) + (1 : Int)) < (↑(3 : Nat) : Int) ∧ (3 : Nat) ≤ y.fst.length), HIs
  [HObj.box Md.rw ty72 [SV.val (Go.Value.float Go.FloatKind.f64 (0 : Nat)), SV.val (Go.Value.float Go.FloatKind.f64 (0 : Nat)), SV.val (Go.Value.float Go.FloatKind.f64 (0 : Nat))],
  HObj.row Md.rw ty98 (K.flt Go.FloatKind.f64) (y.fst.set (IntKind.i64.wrap ((0 : Int) + (1 : Int))).toNat (canonR ([(4607182418800017408 : Nat), s, t].getD (IntKind.i64.wrap
  (IntKind.i64.wrap ((0 : Int) + (1 : Int)) + (1 : Int))).toNat (0 : Nat))).fst)] [HObj.box Md.rw ty72 [SV.val (Go.Value.float Go.FloatKind.f64 (0 : Nat)), SV.val (Go.Value.float
  Go.FloatKind.f64 (0 : Nat)), SV.val (Go.Value.float Go.FloatKind.f64 (0 : Nat))], HObj.row Md.rw ty98 (K.flt Go.FloatKind.f64) (y.fst.set (IntKind.i64.wrap ((0 : Int) + (1 :
  Int))).toNat (canonR ([(4607182418800017408 : Nat), s, t].getD (IntKind.i64.wrap (IntKind.i64.wrap ((0 : Int) + (1 : Int)) + (1 : Int))).toNat (0 : Nat))).fst)] ∧ post_6 ()
  (y.fst.set (IntKind.i64.wrap ((0 : Int) + (1 : Int))).toNat (canonR ([(4607182418800017408 : Nat), s, t].getD (IntKind.i64.wrap (IntKind.i64.wrap ((0 : Int) + (1 : Int)) + (1 :
  Int))).toNat (0 : Nat))).fst, ())) (Br (List.getD (List.getD (framesL.getD f.toNat (K.arr (3 : Nat) (K.arr (3 : Nat) (K.int IntKind.i64))).dflt) (IntKind.i64.wrap
  (IntKind.i64.wrap ((0 : Int) + (1 : Int)) + (1 : Int))).toNat (K.arr (3 : Nat) (K.int IntKind.i64)).dflt) (IntKind.i64.wrap ((0 : Int) + (1 : Int))).toNat (0 : Int) == (-1 : Int))
  (∃ (h : True), ∃ (h : (0 : Int) ≤ IntKind.i64.wrap ((0 : Int) + (1 : Int)) ∧ IntKind.i64.wrap ((0 : Int) + (1 : Int)) < (↑(3 : Nat) : Int) ∧ (3 : Nat) ≤ y.fst.length), HIs
  [HObj.box Md.rw ty72 [SV.val (Go.Value.float Go.FloatKind.f64 (0 : Nat)), SV.val (Go.Value.float Go.FloatKind.f64 (0 : Nat)), SV.val (Go.Value.float Go.FloatKind.f64 (0 : Nat))],
  HObj.row Md.rw ty98 (K.flt Go.FloatKind.f64) (y.fst.set (IntKind.i64.wrap ((0 : Int) + (1 : Int))).toNat (canonR (Go.Op.negFloat Go.FloatKind.f64 ([(4607182418800017408 : Nat), s,
  t].getD (IntKind.i64.wrap (IntKind.i64.wrap ((0 : Int) + (1 : Int)) + (1 : Int))).toNat (0 : Nat)))).fst)] [HObj.box Md.rw ty72 [SV.val (Go.Value.float Go.FloatKind.f64 (0 :
  Nat)), SV.val (Go.Value.float Go.FloatKind.f64 (0 : Nat)), SV.val (Go.Value.float Go.FloatKind.f64 (0 : Nat))], HObj.row Md.rw ty98 (K.flt Go.FloatKind.f64) (y.fst.set
  (IntKind.i64.wrap ((0 : Int) + (1 : Int))).toNat (canonR (Go.Op.negFloat Go.FloatKind.f64 ([(4607182418800017408 : Nat), s, t].getD (IntKind.i64.wrap (IntKind.i64.wrap ((0 : Int)
  + (1 : Int)) + (1 : Int))).toNat (0 : Nat)))).fst)] ∧ post_6 () (y.fst.set (IntKind.i64.wrap ((0 : Int) + (1 : Int))).toNat (canonR (Go.Op.negFloat Go.FloatKind.f64
  ([(4607182418800017408 : Nat), s, t].getD (IntKind.i64.wrap (IntKind.i64.wrap ((0 : Int) + (1 : Int)) + (1 : Int))).toNat (0 : Nat)))).fst, ())) (HIs [HObj.box Md.rw ty72 [SV.val
  (Go.Value.float Go.FloatKind.f64 (0 : Nat)), SV.val (Go.Value.float Go.FloatKind.f64 (0 : Nat)), SV.val (Go.Value.float Go.FloatKind.f64 (0 : Nat))], HObj.row Md.rw ty98 (K.flt
  Go.FloatKind.f64) y.fst] [HObj.box Md.rw ty72 [SV.val (Go.Value.float Go.FloatKind.f64 (0 : Nat)), SV.val (Go.Value.float Go.FloatKind.f64 (0 : Nat)), SV.val (Go.Value.float
  Go.FloatKind.f64 (0 : Nat))], HObj.row Md.rw ty98 (K.flt Go.FloatKind.f64) y.fst] ∧ post_6 () (y.fst, ())))) ∧ ∀ (x : Unit) (y : List Nat × Unit), post_6 x y → ∃ (post_7 : Unit →
  List Nat × Unit → Prop), (∃ (h : (0 : Int) ≤ (0 : Int) ∧ (0 : Int) < (↑(3 : Nat) : Int)), ∃ (h : (0 : Int) ≤ f ∧ f < (↑(6 : Nat) : Int)), ∃ (h : (0 : Int) ≤ (0 : Int) ∧ (0 : Int)
  < (↑(3 : Nat) : Int)), ∃ (h : (0 : Int) ≤ IntKind.i64.wrap (IntKind.i64.wrap ((0 : Int) + (1 : Int)) + (1 : Int)) ∧ IntKind.i64.wrap (IntKind.i64.wrap ((0 : Int) + (1 : Int)) + (1
  : Int)) < (↑(3 : Nat) : Int)), Br (List.getD (List.getD (framesL.getD f.toNat (K.arr (3 : Nat) (K.arr (3 : Nat) (K.int IntKind.i64))).dflt) (Int.toNat (0 : Int)) (K.arr (3 : Nat)
  (K.int IntKind.i64)).dflt) (IntKind.i64.wrap (IntKind.i64.wrap ((0 : Int) + (1 : Int)) + (1 : Int))).toNat (0 : Int) == (1 : Int)) (∃ (h : True), ∃ (h : (0 : Int) ≤
  IntKind.i64.wrap (IntKind.i64.wrap ((0 : Int) + (1 : Int)) + (1 : Int)) ∧ IntKind.i64.wrap (IntKind.i64.wrap ((0 : Int) + (1 : Int)) + (1 : Int)) < (↑(3 : Nat) : Int) ∧ (3 : Nat)
  ≤ y.fst.length), HIs [HObj.box Md.rw ty72 [SV.val (Go.Value.float Go.FloatKind.f64 (0 : Nat)), SV.val (Go.Value.float Go.FloatKind.f64 (0 : Nat)), SV.val (Go.Value.float
  Go.FloatKind.f64 (0 : Nat))], HObj.row Md.rw ty98 (K.flt Go.FloatKind.f64) (y.fst.set (IntKind.i64.wrap (IntKind.i64.wrap ((0 : Int) + (1 : Int)) + (1 : Int))).toNat (canonR
  ([(4607182418800017408 : Nat), s, t].getD (Int.toNat (0 : Int)) (0 : Nat))).fst)] [HObj.box Md.rw ty72 [SV.val (Go.Value.float Go.FloatKind.f64 (0 : Nat)), SV.val (Go.Value.float
  Go.FloatKind.f64 (0 : Nat)), SV.val (Go.Value.float Go.FloatKind.f64 (0 : Nat))], HObj.row Md.rw ty98 (K.flt Go.FloatKind.f64) (y.fst.set (IntKind.i64.wrap (IntKind.i64.wrap ((0 :
  Int) + (1 : Int)) + (1 : Int))).toNat (canonR ([(4607182418800017408 : Nat), s, t].getD (Int.toNat (0 : Int)) (0 : Nat))).fst)] ∧ post_7 () (y.fst.set (IntKind.i64.wrap
  (IntKind.i64.wrap ((0 : Int) + (1 : Int)) + (1 : Int))).toNat (canonR ([(4607182418800017408 : Nat), s, t].getD (Int.toNat (0 : Int)) (0 : Nat))).fst, ())) (Br (List.getD
  (List.getD (framesL.getD f.toNat (K.arr (3 : Nat) (K.arr (3 : Nat) (K.int IntKind.i64))).dflt) (Int.toNat (0 : Int)) (K.arr (3 : Nat) (K.int IntKind.i64)).dflt) (IntKind.i64.wrap
  (IntKind.i64.wrap ((0 : Int) + (1 : Int)) + (1 : Int))).toNat (0 : Int) == (-1 : Int)) (∃ (h : True), ∃ (h : (0 : Int) ≤ IntKind.i64.wrap (IntKind.i64.wrap ((0 : Int) + (1 : Int))
  + (1 : Int)) ∧ IntKind.i64.wrap (IntKind.i64.wrap ((0 : Int) + (1 : Int)) + (1 : Int)) < (↑(3 : Nat) : Int) ∧ (3 : Nat) ≤ y.fst.length), HIs [HObj.box Md.rw ty72 [SV.val
  (Go.Value.float Go.FloatKind.f64 (0 : Nat)), SV.val (Go.Value.float Go.FloatKind.f64 (0 : Nat)), SV.val (Go.Value.float Go.FloatKind.f64 (0 : Nat))], HObj.row Md.rw ty98 (K.flt
  Go.FloatKind.f64) (y.fst.set (IntKind.i64.wrap (IntKind.i64.wrap ((0 : Int) + (1 : Int)) + (1 : Int))).toNat (canonR (Go.Op.negFloat Go.FloatKind.f64 ([(4607182418800017408 :
  Nat), s, t].getD (Int.toNat (0 : Int)) (0 : Nat)))).fst)] [HObj.box Md.rw ty72 [SV.val (Go.Value.float Go.FloatKind.f64 (0 : Nat)), SV.val (Go.Value.float Go.FloatKind.f64 (0 :
  Nat)), SV.val (Go.Value.float Go.FloatKind.f64 (0 : Nat))], HObj.row Md.rw ty98 (K.flt Go.FloatKind.f64) (y.fst.set (IntKind.i64.wrap (IntKind.i64.wrap ((0 : Int) + (1 : Int)) +
  (1 : Int))).toNat (canonR (Go.Op.negFloat Go.FloatKind.f64 ([(4607182418800017408 : Nat), s, t].getD (Int.toNat (0 : Int)) (0 : Nat)))).fst)] ∧ post_7 () (y.fst.set
  (IntKind.i64.wrap (IntKind.i64.wrap ((0 : Int) + (1 : Int)) + (1 : Int))).toNat (canonR (Go.Op.negFloat Go.FloatKind.f64 ([(4607182418800017408 : Nat), s, t].getD (Int.toNat (0 :
  Int)) (0 : Nat)))).fst, ())) (HIs [HObj.box Md.rw ty72 [SV.val (Go.Value.float Go.FloatKind.f64 (0 : Nat)), SV.val (Go.Value.float Go.FloatKind.f64 (0 : Nat)), SV.val
  (Go.Value.float Go.FloatKind.f64 (0 : Nat))], HObj.row Md.rw ty98 (K.flt Go.FloatKind.f64) y.fst] [HObj.box Md.rw ty72 [SV.val (Go.Value.float Go.FloatKind.f64 (0 : Nat)), SV.val
  (Go.Value.float Go.FloatKind.f64 (0 : Nat)), SV.val (Go.Value.float Go.FloatKind.f64 (0 : Nat))], HObj.row Md.rw ty98 (K.flt Go.FloatKind.f64) y.fst] ∧ post_7 () (y.fst, ())))) ∧
  ∀ (x : Unit) (y : List Nat × Unit), post_7 x y → ∃ (post_8 : Unit → List Nat × Unit → Prop), (∃ (h : (0 : Int) ≤ IntKind.i64.wrap ((0 : Int) + (1 : Int)) ∧ IntKind.i64.wrap ((0 :
  Int) + (1 : Int)) < (↑(3 : Nat) : Int)), ∃ (h : (0 : Int) ≤ f ∧ f < (↑(6 : Nat) : Int)), ∃ (h : (0 : Int) ≤ IntKind.i64.wrap ((0 : Int) + (1 : Int)) ∧ IntKind.i64.wrap ((0 : Int)
  + (1 : Int)) < (↑(3 : Nat) : Int)), ∃ (h : (0 : Int) ≤ IntKind.i64.wrap (IntKind.i64.wrap ((0 : Int) + (1 : Int)) + (1 : Int)) ∧ IntKind.i64.wrap (IntKind.i64.wrap ((0 : Int) + (1
  : Int)) + (1 : Int)) < (↑(3 : Nat) : Int)), Br (List.getD (List.getD (framesL.getD f.toNat (K.arr (3 : Nat) (K.arr (3 : Nat) (K.int IntKind.i64))).dflt) (IntKind.i64.wrap ((0 :
  Int) + (1 : Int))).toNat (K.arr (3 : Nat) (K.int IntKind.i64)).dflt) (IntKind.i64.wrap (IntKind.i64.wrap ((0 : Int) + (1 : Int)) + (1 : Int))).toNat (0 : Int) == (1 : Int)) (∃ (h
  : True), ∃ (h : (0 : Int) ≤ IntKind.i64.wrap (IntKind.i64.wrap ((0 : Int) + (1 : Int)) + (1 : Int)) ∧ IntKind.i64.wrap (IntKind.i64.wrap ((0 : Int) + (1 : Int)) + (1 : Int)) <
  (↑(3 : Nat) : Int) ∧ (3 : Nat) ≤ y.fst.length), HIs [HObj.box Md.rw ty72 [SV.val (Go.Value.float Go.FloatKind.f64 (0 : Nat)), SV.val (Go.Value.float Go.FloatKind.f64 (0 : Nat)),
  SV.val (Go.Value.float Go.FloatKind.f64 (0 : Nat))], HObj.row Md.rw ty98 (K.flt Go.FloatKind.f64) (y.fst.set (IntKind.i64.wrap (IntKind.i64.wrap ((0 : Int) + (1 : Int)) + (1 :
  Int))).toNat (canonR ([(4607182418800017408 : Nat), s, t].getD (IntKind.i64.wrap ((0 : Int) + (1 : Int))).toNat (0 : Nat))).fst)] [HObj.box Md.rw ty72 [SV.val (Go.Value.float
  Go.FloatKind.f64 (0 : Nat)), SV.val (Go.Value.float Go.FloatKind.f64 (0 : Nat)), SV.val (Go.Value.float Go.FloatKind.f64 (0 : Nat))], HObj.row Md.rw ty98 (K.flt Go.FloatKind.f64)
  (y.fst.set (IntKind.i64.wrap (IntKind.i64.wrap ((0 : Int) + (1 : Int)) + (1 : Int))).toNat (canonR ([(4607182418800017408 : Nat), s, t].getD (IntKind.i64.wrap ((0 : Int) + (1 :
  Int))).toNat (0 : Nat))).fst)] ∧ post_8 () (y.fst.set (IntKind.i64.wrap (IntKind.i64.wrap ((0 : Int) + (1 : Int)) + (1 : Int))).toNat (canonR ([(4607182418800017408 : Nat), s,
  t].getD (IntKind.i64.wrap ((0 : Int) + (1 : Int))).toNat (0 : Nat))).fst, ())) (Br (List.getD (List.getD (framesL.getD f.toNat (K.arr (3 : Nat) (K.arr (3 : Nat) (K.int
  IntKind.i64))).dflt) (IntKind.i64.wrap ((0 : Int) + (1 : Int))).toNat (K.arr (3 : Nat) (K.int IntKind.i64)).dflt) (IntKind.i64.wrap (IntKind.i64.wrap ((0 : Int) + (1 : Int)) + (1
  : Int))).toNat (0 : Int) == (-1 : Int)) (∃ (h : True), ∃ (h : (0 : Int) ≤ IntKind.i64.wrap (IntKind.i64.wrap ((0 : Int) + (1 : Int)) + (1 : Int)) ∧ IntKind.i64.wrap
  (IntKind.i64.wrap ((0 : Int) + (1 : Int)) + (1 : Int)) < (↑(3 : Nat) : Int) ∧ (3 : Nat) ≤ y.fst.length), HIs [HObj.box Md.rw ty72 [SV.val (Go.Value.float Go.FloatKind.f64 (0 :
  Nat)), SV.val (Go.Value.float Go.FloatKind.f64 (0 : Nat)), SV.val (Go.Value.float Go.FloatKind.f64 (0 : Nat))], HObj.row Md.rw ty98 (K.flt Go.FloatKind.f64) (y.fst.set
  (IntKind.i64.wrap (IntKind.i64.wrap ((0 : Int) + (1 : Int)) + (1 : Int))).toNat (canonR (Go.Op.negFloat Go.FloatKind.f64 ([(4607182418800017408 : Nat), s, t].getD
  (IntKind.i64.wrap ((0 : Int) + (1 : Int))).toNat (0 : Nat)))).fst)] [HObj.box Md.rw ty72 [SV.val (Go.Value.float Go.FloatKind.f64 (0 : Nat)), SV.val (Go.Value.float
  Go.FloatKind.f64 (0 : Nat)), SV.val (Go.Value.float Go.FloatKind.f64 (0 : Nat))], HObj.row Md.rw ty98 (K.flt Go.FloatKind.f64) (y.fst.set (IntKind.i64.wrap (IntKind.i64.wrap ((0 :
  Int) + (1 : Int)) + (1 : Int))).toNat (canonR (Go.Op.negFloat Go.FloatKind.f64 ([(4607182418800017408 : Nat), s, t].getD (IntKind.i64.wrap ((0 : Int) + (1 : Int))).toNat (0 :
  Nat)))).fst)] ∧ post_8 () (y.fst.set (IntKind.i64.wrap (IntKind.i64.wrap ((0 : Int) + (1 : Int)) + (1 : Int))).toNat (canonR (Go.Op.negFloat Go.FloatKind.f64
  ([(4607182418800017408 : Nat), s, t].getD (IntKind.i64.wrap ((0 : Int) + (1 : Int))).toNat (0 : Nat)))).fst, ())) (HIs [HObj.box Md.rw ty72 [SV.val (Go.Value.float
  Go.FloatKind.f64 (0 : Nat)), SV.val (Go.Value.float Go.FloatKind.f64 (0 : Nat)), SV.val (Go.Value.float Go.FloatKind.f64 (0 : Nat))], HObj.row Md.rw ty98 (K.flt Go.FloatKind.f64)
  y.fst] [HObj.box Md.rw ty72 [SV.val (Go.Value.float Go.FloatKind.f64 (0 : Nat)), SV.val (Go.Value.float Go.FloatKind.f64 (0 : Nat)), SV.val (Go.Value.float Go.FloatKind.f64 (0 :
  Nat))], HObj.row Md.rw ty98 (K.flt Go.FloatKind.f64) y.fst] ∧ post_8 () (y.fst, ())))) ∧ ∀ (x : Unit) (y : List Nat × Unit), post_8 x y → ∃ (post_9 : Unit → List Nat × Unit →
  Prop), (∃ (h : (0 : Int) ≤ IntKind.i64.wrap (IntKind.i64.wrap ((0 : Int) + (1 : Int)) + (1 : Int)) ∧ IntKind.i64.wrap (IntKind.i64.wrap ((0 : Int) + (1 : Int)) + (1 : Int)) < (↑(3
  : Nat) : Int)), ∃ (h : (0 : Int) ≤ f ∧ f < (↑(6 : Nat) : Int)), ∃ (h : (0 : Int) ≤ IntKind.i64.wrap (IntKind.i64.wrap ((0 : Int) + (1 : Int)) + (1 : Int)) ∧ IntKind.i64.wrap
  (IntKind.i64.wrap ((0 : Int) + (1 : Int)) + (1 : Int)) < (↑(3 : Nat) : Int)), ∃ (h : (0 : Int) ≤ IntKind.i64.wrap (IntKind.i64.wrap ((0 : Int) + (1 : Int)) + (1 : Int)) ∧
  IntKind.i64.wrap (IntKind.i64.wrap ((0 : Int) + (1 : Int)) + (1 : Int)) < (↑(3 : Nat) : Int)), Br (List.getD (List.getD (framesL.getD f.toNat (K.arr (3 : Nat) (K.arr (3 : Nat)
  (K.int IntKind.i64))).dflt) (IntKind.i64.wrap (IntKind.i64.wrap ((0 : Int) + (1 : Int)) + (1 : Int))).toNat (K.arr (3 : Nat) (K.int IntKind.i64)).dflt) (IntKind.i64.wrap
  (IntKind.i64.wrap ((0 : Int) + (1 : Int)) + (1 : Int))).toNat (0 : Int) == (1 : Int)) (∃ (h : True), ∃ (h : (0 : Int) ≤ IntKind.i64.wrap (IntKind.i64.wrap ((0 : Int) + (1 : Int))
  + (1 : Int)) ∧ IntKind.i64.wrap (IntKind.i64.wrap ((0 : Int) + (1 : Int)) + (1 : Int)) < (↑(3 : Nat) : Int) ∧ (3 : Nat) ≤ y.fst.length), HIs [HObj.box Md.rw ty72 [SV.val
  (Go.Value.float Go.FloatKind.f64 (0 : Nat)), SV.val (Go.Value.float Go.FloatKind.f64 (0 : Nat)), SV.val (Go.Value.float Go.FloatKind.f64 (0 : Nat))], HObj.row Md.rw ty98 (K.flt
  Go.FloatKind.f64) (y.fst.set (IntKind.i64.wrap (IntKind.i64.wrap ((0 : Int) + (1 : Int)) + (1 : Int))).toNat (canonR ([(4607182418800017408 : Nat), s, t].getD (IntKind.i64.wrap
  (IntKind.i64.wrap ((0 : Int) + (1 : Int)) + (1 : Int))).toNat (0 : Nat))).fst)] [HObj.box Md.rw ty72 [SV.val (Go.Value.float Go.FloatKind.f64 (0 : Nat)), SV.val (Go.Value.float
  Go.FloatKind.f64 (0 : Nat)), SV.val (Go.Value.float Go.FloatKind.f64 (0 : Nat))], HObj.row Md.rw ty98 (K.flt Go.FloatKind.f64) (y.fst.set (IntKind.i64.wrap (IntKind.i64.wrap ((0 :
  Int) + (1 : Int)) + (1 : Int))).toNat (canonR ([(4607182418800017408 : Nat), s, t].getD (IntKind.i64.wrap (IntKind.i64.wrap ((0 : Int) + (1 : Int)) + (1 : Int))).toNat (0 :
  Nat))).fst)] ∧ post_9 () (y.fst.set (IntKind.i64.wrap (IntKind.i64.wrap ((0 : Int) + (1 : Int)) + (1 : Int))).toNat (canonR ([(4607182418800017408 : Nat), s, t].getD
  (IntKind.i64.wrap (IntKind.i64.wrap ((0 : Int) + (1 : Int)) + (1 : Int))).toNat (0 : Nat))).fst, ())) (Br (List.getD (List.getD (framesL.getD f.toNat (K.arr (3 : Nat) (K.arr (3 :
  Nat) (K.int IntKind.i64))).dflt) (IntKind.i64.wrap (IntKind.i64.wrap ((0 : Int) + (1 : Int)) + (1 : Int))).toNat (K.arr (3 : Nat) (K.int IntKind.i64)).dflt) (IntKind.i64.wrap
  (IntKind.i64.wrap ((0 : Int) + (1 : Int)) + (1 : Int))).toNat (0 : Int) == (-1 : Int)) (∃ (h : True), ∃ (h : (0 : Int) ≤ IntKind.i64.wrap (IntKind.i64.wrap ((0 : Int) + (1 : Int))
  + (1 : Int)) ∧ IntKind.i64.wrap (IntKind.i64.wrap ((0 : Int) + (1 : Int)) + (1 : Int)) < (↑(3 : Nat) : Int) ∧ (3 : Nat) ≤ y.fst.length), HIs [HObj.box Md.rw ty72 [SV.val
  (Go.Value.float Go.FloatKind.f64 (0 : Nat)), SV.val (Go.Value.float Go.FloatKind.f64 (0 : Nat)), SV.val (Go.Value.float Go.FloatKind.f64 (0 : Nat))], HObj.row Md.rw ty98 (K.flt
  Go.FloatKind.f64) (y.fst.set (IntKind.i64.wrap (IntKind.i64.wrap ((0 : Int) + (1 : Int)) + (1 : Int))).toNat (canonR (Go.Op.negFloat Go.FloatKind.f64 ([(4607182418800017408 :
  Nat), s, t].getD (IntKind.i64.wrap (IntKind.i64.wrap ((0 : Int) + (1 : Int)) + (1 : Int))).toNat (0 : Nat)))).fst)] [HObj.box Md.rw ty72 [SV.val (Go.Value.float Go.FloatKind.f64
  (0 : Nat)), SV.val (Go.Value.float Go.FloatKind.f64 (0 : Nat)), SV.val (Go.Value.float Go.FloatKind.f64 (0 : Nat))], HObj.row Md.rw ty98 (K.flt Go.FloatKind.f64) (y.fst.set
  (IntKind.i64.wrap (IntKind.i64.wrap ((0 : Int) + (1 : Int)) + (1 : Int))).toNat (canonR (Go.Op.negFloat Go.FloatKind.f64 ([(4607182418800017408 : Nat), s, t].getD
  (IntKind.i64.wrap (IntKind.i64.wrap ((0 : Int) + (1 : Int)) + (1 : Int))).toNat (0 : Nat)))).fst)] ∧ post_9 () (y.fst.set (IntKind.i64.wrap (IntKind.i64.wrap ((0 : Int) + (1 :
  Int)) + (1 : Int))).toNat (canonR (Go.Op.negFloat Go.FloatKind.f64 ([(4607182418800017408 : Nat), s, t].getD (IntKind.i64.wrap (IntKind.i64.wrap ((0 : Int) + (1 : Int)) + (1 :
  Int))).toNat (0 : Nat)))).fst, ())) (HIs [HObj.box Md.rw ty72 [SV.val (Go.Value.float Go.FloatKind.f64 (0 : Nat)), SV.val (Go.Value.float Go.FloatKind.f64 (0 : Nat)), SV.val
  (Go.Value.float Go.FloatKind.f64 (0 : Nat))], HObj.row Md.rw ty98 (K.flt Go.FloatKind.f64) y.fst] [HObj.box Md.rw ty72 [SV.val (Go.Value.float Go.FloatKind.f64 (0 : Nat)), SV.val
  (Go.Value.float Go.FloatKind.f64 (0 : Nat)), SV.val (Go.Value.float Go.FloatKind.f64 (0 : Nat))], HObj.row Md.rw ty98 (K.flt Go.FloatKind.f64) y.fst] ∧ post_9 () (y.fst, ())))) ∧
  ∀ (x : Unit) (y : List Nat × Unit), post_9 x y → ∃ (h : (0 : Int) ≤ (0 : Int) ∧ (0 : Int) < (↑(3 : Nat) : Int) ∧ (3 : Nat) ≤ y.fst.length), ∃ (h : (0 : Int) ≤ (1 : Int) ∧ (1 :
  Int) < (↑(3 : Nat) : Int) ∧ (3 : Nat) ≤ y.fst.length), ∃ (h : (0 : Int) ≤ (2 : Int) ∧ (2 : Int) < (↑(3 : Nat) : Int) ∧ (3 : Nat) ≤ y.fst.length), ∃ (h : WV (y.fst.getD (Int.toNat
  (0 : Int)) (0 : Nat), y.fst.getD (Int.toNat (1 : Int)) (0 : Nat), y.fst.getD (Int.toNat (2 : Int)) (0 : Nat))), post (((unitR (y.fst.getD (Int.toNat (0 : Int)) (0 : Nat),
  y.fst.getD (Int.toNat (1 : Int)) (0 : Nat), y.fst.getD (Int.toNat (2 : Int)) (0 : Nat))).fst.fst, (unitR (y.fst.getD (Int.toNat (0 : Int)) (0 : Nat), y.fst.getD (Int.toNat (1 :
  Int)) (0 : Nat), y.fst.getD (Int.toNat (2 : Int)) (0 : Nat))).fst.snd.fst, (unitR (y.fst.getD (Int.toNat (0 : Int)) (0 : Nat), y.fst.getD (Int.toNat (1 : Int)) (0 : Nat),
  y.fst.getD (Int.toNat (2 : Int)) (0 : Nat))).fst.snd.snd), ())
theorem Lx_geom_point (ty0 ty1 : Nat) (f : Int) (s : Nat) (t : Nat) (h : WPoint f s t) : Fx_geom_point ty0 ty1 f s t (fun r => r = pointR f s t) := by
  obtain ⟨f0, f5, hs, ht⟩ := h
  have hfb : 0 ≤ f ∧ f < ((6 : Nat) : Int) := ⟨f0, by omega⟩
  refine ⟨fun _ y => y.1 = [(axisF (frameI f 0 0) (List.getD [(4607182418800017408 : Nat), s, t] (Int.toNat (0 : Int)) (0 : Nat)) 0), 0, 0], ⟨by decide, hfb, by decide, by decide, br_axis (m := (frameI f 0 0)) (v := (List.getD [(4607182418800017408 : Nat), s, t] (Int.toNat (0 : Int)) (0 : Nat))) (c := 0) (P := fun z => [z, 0, 0] = [(axisF (frameI f 0 0) (List.getD [(4607182418800017408 : Nat), s, t] (Int.toNat (0 : Int)) (0 : Nat)) 0), 0, 0]) rfl (fun e => ⟨trivial, ⟨by decide, by decide, Nat.le_refl 3⟩, rfl, e⟩) (fun e => ⟨trivial, ⟨by decide, by decide, Nat.le_refl 3⟩, rfl, e⟩) (fun e => ⟨rfl, e⟩)⟩, ?_⟩
  rintro ⟨⟩ ⟨_, ⟨⟩⟩ rfl
  refine ⟨fun _ y => y.1 = [(axisF (frameI f 1 0) s (axisF (frameI f 0 0) (List.getD [(4607182418800017408 : Nat), s, t] (Int.toNat (0 : Int)) (0 : Nat)) 0)), 0, 0], ⟨by decide, hfb, by decide, by decide, br_axis (m := (frameI f 1 0)) (v := s) (c := (axisF (frameI f 0 0) (List.getD [(4607182418800017408 : Nat), s, t] (Int.toNat (0 : Int)) (0 : Nat)) 0)) (P := fun z => [z, 0, 0] = [(axisF (frameI f 1 0) s (axisF (frameI f 0 0) (List.getD [(4607182418800017408 : Nat), s, t] (Int.toNat (0 : Int)) (0 : Nat)) 0)), 0, 0]) rfl (fun e => ⟨trivial, ⟨by decide, by decide, Nat.le_refl 3⟩, rfl, e⟩) (fun e => ⟨trivial, ⟨by decide, by decide, Nat.le_refl 3⟩, rfl, e⟩) (fun e => ⟨rfl, e⟩)⟩, ?_⟩
  rintro ⟨⟩ ⟨_, ⟨⟩⟩ rfl
  refine ⟨fun _ y => y.1 = [(axisF (frameI f 2 0) t (axisF (frameI f 1 0) s (axisF (frameI f 0 0) (List.getD [(4607182418800017408 : Nat), s, t] (Int.toNat (0 : Int)) (0 : Nat)) 0))), 0, 0], ⟨by decide, hfb, by decide, by decide, br_axis (m := (frameI f 2 0)) (v := t) (c := (axisF (frameI f 1 0) s (axisF (frameI f 0 0) (List.getD [(4607182418800017408 : Nat), s, t] (Int.toNat (0 : Int)) (0 : Nat)) 0))) (P := fun z => [z, 0, 0] = [(axisF (frameI f 2 0) t (axisF (frameI f 1 0) s (axisF (frameI f 0 0) (List.getD [(4607182418800017408 : Nat), s, t] (Int.toNat (0 : Int)) (0 : Nat)) 0))), 0, 0]) rfl (fun e => ⟨trivial, ⟨by decide, by decide, Nat.le_refl 3⟩, rfl, e⟩) (fun e => ⟨trivial, ⟨by decide, by decide, Nat.le_refl 3⟩, rfl, e⟩) (fun e => ⟨rfl, e⟩)⟩, ?_⟩
  rintro ⟨⟩ ⟨_, ⟨⟩⟩ rfl
  refine ⟨fun _ y => y.1 = [(axisF (frameI f 2 0) t (axisF (frameI f 1 0) s (axisF (frameI f 0 0) (List.getD [(4607182418800017408 : Nat), s, t] (Int.toNat (0 : Int)) (0 : Nat)) 0))), (axisF (frameI f 0 1) (List.getD [(4607182418800017408 : Nat), s, t] (Int.toNat (0 : Int)) (0 : Nat)) 0), 0], ⟨by decide, hfb, by decide, by decide, br_axis (m := (frameI f 0 1)) (v := (List.getD [(4607182418800017408 : Nat), s, t] (Int.toNat (0 : Int)) (0 : Nat))) (c := 0) (P := fun z => [(axisF (frameI f 2 0) t (axisF (frameI f 1 0) s (axisF (frameI f 0 0) (List.getD [(4607182418800017408 : Nat), s, t] (Int.toNat (0 : Int)) (0 : Nat)) 0))), z, 0] = [(axisF (frameI f 2 0) t (axisF (frameI f 1 0) s (axisF (frameI f 0 0) (List.getD [(4607182418800017408 : Nat), s, t] (Int.toNat (0 : Int)) (0 : Nat)) 0))), (axisF (frameI f 0 1) (List.getD [(4607182418800017408 : Nat), s, t] (Int.toNat (0 : Int)) (0 : Nat)) 0), 0]) rfl (fun e => ⟨trivial, ⟨by decide, by decide, Nat.le_refl 3⟩, rfl, e⟩) (fun e => ⟨trivial, ⟨by decide, by decide, Nat.le_refl 3⟩, rfl, e⟩) (fun e => ⟨rfl, e⟩)⟩, ?_⟩
  rintro ⟨⟩ ⟨_, ⟨⟩⟩ rfl
  refine ⟨fun _ y => y.1 = [(axisF (frameI f 2 0) t (axisF (frameI f 1 0) s (axisF (frameI f 0 0) (List.getD [(4607182418800017408 : Nat), s, t] (Int.toNat (0 : Int)) (0 : Nat)) 0))), (axisF (frameI f 1 1) s (axisF (frameI f 0 1) (List.getD [(4607182418800017408 : Nat), s, t] (Int.toNat (0 : Int)) (0 : Nat)) 0)), 0], ⟨by decide, hfb, by decide, by decide, br_axis (m := (frameI f 1 1)) (v := s) (c := (axisF (frameI f 0 1) (List.getD [(4607182418800017408 : Nat), s, t] (Int.toNat (0 : Int)) (0 : Nat)) 0)) (P := fun z => [(axisF (frameI f 2 0) t (axisF (frameI f 1 0) s (axisF (frameI f 0 0) (List.getD [(4607182418800017408 : Nat), s, t] (Int.toNat (0 : Int)) (0 : Nat)) 0))), z, 0] = [(axisF (frameI f 2 0) t (axisF (frameI f 1 0) s (axisF (frameI f 0 0) (List.getD [(4607182418800017408 : Nat), s, t] (Int.toNat (0 : Int)) (0 : Nat)) 0))), (axisF (frameI f 1 1) s (axisF (frameI f 0 1) (List.getD [(4607182418800017408 : Nat), s, t] (Int.toNat (0 : Int)) (0 : Nat)) 0)), 0]) rfl (fun e => ⟨trivial, ⟨by decide, by decide, Nat.le_refl 3⟩, rfl, e⟩) (fun e => ⟨trivial, ⟨by decide, by decide, Nat.le_refl 3⟩, rfl, e⟩) (fun e => ⟨rfl, e⟩)⟩, ?_⟩
  rintro ⟨⟩ ⟨_, ⟨⟩⟩ rfl
  refine ⟨fun _ y => y.1 = [(axisF (frameI f 2 0) t (axisF (frameI f 1 0) s (axisF (frameI f 0 0) (List.getD [(4607182418800017408 : Nat), s, t] (Int.toNat (0 : Int)) (0 : Nat)) 0))), (axisF (frameI f 2 1) t (axisF (frameI f 1 1) s (axisF (frameI f 0 1) (List.getD [(4607182418800017408 : Nat), s, t] (Int.toNat (0 : Int)) (0 : Nat)) 0))), 0], ⟨by decide, hfb, by decide, by decide, br_axis (m := (frameI f 2 1)) (v := t) (c := (axisF (frameI f 1 1) s (axisF (frameI f 0 1) (List.getD [(4607182418800017408 : Nat), s, t] (Int.toNat (0 : Int)) (0 : Nat)) 0))) (P := fun z => [(axisF (frameI f 2 0) t (axisF (frameI f 1 0) s (axisF (frameI f 0 0) (List.getD [(4607182418800017408 : Nat), s, t] (Int.toNat (0 : Int)) (0 : Nat)) 0))), z, 0] = [(axisF (frameI f 2 0) t (axisF (frameI f 1 0) s (axisF (frameI f 0 0) (List.getD [(4607182418800017408 : Nat), s, t] (Int.toNat (0 : Int)) (0 : Nat)) 0))), (axisF (frameI f 2 1) t (axisF (frameI f 1 1) s (axisF (frameI f 0 1) (List.getD [(4607182418800017408 : Nat), s, t] (Int.toNat (0 : Int)) (0 : Nat)) 0))), 0]) rfl (fun e => ⟨trivial, ⟨by decide, by decide, Nat.le_refl 3⟩, rfl, e⟩) (fun e => ⟨trivial, ⟨by decide, by decide, Nat.le_refl 3⟩, rfl, e⟩) (fun e => ⟨rfl, e⟩)⟩, ?_⟩
  rintro ⟨⟩ ⟨_, ⟨⟩⟩ rfl
  refine ⟨fun _ y => y.1 = [(axisF (frameI f 2 0) t (axisF (frameI f 1 0) s (axisF (frameI f 0 0) (List.getD [(4607182418800017408 : Nat), s, t] (Int.toNat (0 : Int)) (0 : Nat)) 0))), (axisF (frameI f 2 1) t (axisF (frameI f 1 1) s (axisF (frameI f 0 1) (List.getD [(4607182418800017408 : Nat), s, t] (Int.toNat (0 : Int)) (0 : Nat)) 0))), (axisF (frameI f 0 2) (List.getD [(4607182418800017408 : Nat), s, t] (Int.toNat (0 : Int)) (0 : Nat)) 0)], ⟨by decide, hfb, by decide, by decide, br_axis (m := (frameI f 0 2)) (v := (List.getD [(4607182418800017408 : Nat), s, t] (Int.toNat (0 : Int)) (0 : Nat))) (c := 0) (P := fun z => [(axisF (frameI f 2 0) t (axisF (frameI f 1 0) s (axisF (frameI f 0 0) (List.getD [(4607182418800017408 : Nat), s, t] (Int.toNat (0 : Int)) (0 : Nat)) 0))), (axisF (frameI f 2 1) t (axisF (frameI f 1 1) s (axisF (frameI f 0 1) (List.getD [(4607182418800017408 : Nat), s, t] (Int.toNat (0 : Int)) (0 : Nat)) 0))), z] = [(axisF (frameI f 2 0) t (axisF (frameI f 1 0) s (axisF (frameI f 0 0) (List.getD [(4607182418800017408 : Nat), s, t] (Int.toNat (0 : Int)) (0 : Nat)) 0))), (axisF (frameI f 2 1) t (axisF (frameI f 1 1) s (axisF (frameI f 0 1) (List.getD [(4607182418800017408 : Nat), s, t] (Int.toNat (0 : Int)) (0 : Nat)) 0))), (axisF (frameI f 0 2) (List.getD [(4607182418800017408 : Nat), s, t] (Int.toNat (0 : Int)) (0 : Nat)) 0)]) rfl (fun e => ⟨trivial, ⟨by decide, by decide, Nat.le_refl 3⟩, rfl, e⟩) (fun e => ⟨trivial, ⟨by decide, by decide, Nat.le_refl 3⟩, rfl, e⟩) (fun e => ⟨rfl, e⟩)⟩, ?_⟩
  rintro ⟨⟩ ⟨_, ⟨⟩⟩ rfl
  refine ⟨fun _ y => y.1 = [(axisF (frameI f 2 0) t (axisF (frameI f 1 0) s (axisF (frameI f 0 0) (List.getD [(4607182418800017408 : Nat), s, t] (Int.toNat (0 : Int)) (0 : Nat)) 0))), (axisF (frameI f 2 1) t (axisF (frameI f 1 1) s (axisF (frameI f 0 1) (List.getD [(4607182418800017408 : Nat), s, t] (Int.toNat (0 : Int)) (0 : Nat)) 0))), (axisF (frameI f 1 2) s (axisF (frameI f 0 2) (List.getD [(4607182418800017408 : Nat), s, t] (Int.toNat (0 : Int)) (0 : Nat)) 0))], ⟨by decide, hfb, by decide, by decide, br_axis (m := (frameI f 1 2)) (v := s) (c := (axisF (frameI f 0 2) (List.getD [(4607182418800017408 : Nat), s, t] (Int.toNat (0 : Int)) (0 : Nat)) 0)) (P := fun z => [(axisF (frameI f 2 0) t (axisF (frameI f 1 0) s (axisF (frameI f 0 0) (List.getD [(4607182418800017408 : Nat), s, t] (Int.toNat (0 : Int)) (0 : Nat)) 0))), (axisF (frameI f 2 1) t (axisF (frameI f 1 1) s (axisF (frameI f 0 1) (List.getD [(4607182418800017408 : Nat), s, t] (Int.toNat (0 : Int)) (0 : Nat)) 0))), z] = [(axisF (frameI f 2 0) t (axisF (frameI f 1 0) s (axisF (frameI f 0 0) (List.getD [(4607182418800017408 : Nat), s, t] (Int.toNat (0 : Int)) (0 : Nat)) 0))), (axisF (frameI f 2 1) t (axisF (frameI f 1 1) s (axisF (frameI f 0 1) (List.getD [(4607182418800017408 : Nat), s, t] (Int.toNat (0 : Int)) (0 : Nat)) 0))), (axisF (frameI f 1 2) s (axisF (frameI f 0 2) (List.getD [(4607182418800017408 : Nat), s, t] (Int.toNat (0 : Int)) (0 : Nat)) 0))]) rfl (fun e => ⟨trivial, ⟨by decide, by decide, Nat.le_refl 3⟩, rfl, e⟩) (fun e => ⟨trivial, ⟨by decide, by decide, Nat.le_refl 3⟩, rfl, e⟩) (fun e => ⟨rfl, e⟩)⟩, ?_⟩
  rintro ⟨⟩ ⟨_, ⟨⟩⟩ rfl
  refine ⟨fun _ y => y.1 = [(axisF (frameI f 2 0) t (axisF (frameI f 1 0) s (axisF (frameI f 0 0) (List.getD [(4607182418800017408 : Nat), s, t] (Int.toNat (0 : Int)) (0 : Nat)) 0))), (axisF (frameI f 2 1) t (axisF (frameI f 1 1) s (axisF (frameI f 0 1) (List.getD [(4607182418800017408 : Nat), s, t] (Int.toNat (0 : Int)) (0 : Nat)) 0))), (axisF (frameI f 2 2) t (axisF (frameI f 1 2) s (axisF (frameI f 0 2) (List.getD [(4607182418800017408 : Nat), s, t] (Int.toNat (0 : Int)) (0 : Nat)) 0)))], ⟨by decide, hfb, by decide, by decide, br_axis (m := (frameI f 2 2)) (v := t) (c := (axisF (frameI f 1 2) s (axisF (frameI f 0 2) (List.getD [(4607182418800017408 : Nat), s, t] (Int.toNat (0 : Int)) (0 : Nat)) 0))) (P := fun z => [(axisF (frameI f 2 0) t (axisF (frameI f 1 0) s (axisF (frameI f 0 0) (List.getD [(4607182418800017408 : Nat), s, t] (Int.toNat (0 : Int)) (0 : Nat)) 0))), (axisF (frameI f 2 1) t (axisF (frameI f 1 1) s (axisF (frameI f 0 1) (List.getD [(4607182418800017408 : Nat), s, t] (Int.toNat (0 : Int)) (0 : Nat)) 0))), z] = [(axisF (frameI f 2 0) t (axisF (frameI f 1 0) s (axisF (frameI f 0 0) (List.getD [(4607182418800017408 : Nat), s, t] (Int.toNat (0 : Int)) (0 : Nat)) 0))), (axisF (frameI f 2 1) t (axisF (frameI f 1 1) s (axisF (frameI f 0 1) (List.getD [(4607182418800017408 : Nat), s, t] (Int.toNat (0 : Int)) (0 : Nat)) 0))), (axisF (frameI f 2 2) t (axisF (frameI f 1 2) s (axisF (frameI f 0 2) (List.getD [(4607182418800017408 : Nat), s, t] (Int.toNat (0 : Int)) (0 : Nat)) 0)))]) rfl (fun e => ⟨trivial, ⟨by decide, by decide, Nat.le_refl 3⟩, rfl, e⟩) (fun e => ⟨trivial, ⟨by decide, by decide, Nat.le_refl 3⟩, rfl, e⟩) (fun e => ⟨rfl, e⟩)⟩, ?_⟩
  rintro ⟨⟩ ⟨_, ⟨⟩⟩ rfl
  refine ⟨⟨by decide, by decide, Nat.le_refl 3⟩, ⟨by decide, by decide, Nat.le_refl 3⟩, ⟨by decide, by decide, Nat.le_refl 3⟩, ⟨axisP_w f hs ht 0, axisP_w f hs ht 1, axisP_w f hs ht 2⟩, rfl⟩
def Fx_geom_Corner := fun (n f i j : Int) (post : (Nat × Nat × Nat) × Bool × Unit → Prop) => ∃ (h : I64 n), ∀ (a : Bool), a = ((cellsR n).fst == (0 : Int)) → Br a (post (((0 : Nat),
  (0 : Nat), (0 : Nat)), Bool.false, ())) (∀ (a : Bool), a = decide (f < (0 : Int)) → Br a (post (((0 : Nat), (0 : Nat), (0 : Nat)), Bool.false, ())) (∀ (a : Bool), a = decide (f >
  (5 : Int)) → Br a (post (((0 : Nat), (0 : Nat), (0 : Nat)), Bool.false, ())) (∀ (a : Bool), a = decide (i < (0 : Int)) → Br a (post (((0 : Nat), (0 : Nat), (0 : Nat)), Bool.false,
  ())) (∀ (a : Bool), a = decide (i > n) → Br a (post (((0 : Nat), (0 : Nat), (0 : Nat)), Bool.false, ())) (∀ (a : Bool), a = decide (j < (0 : Int)) → Br a (post (((0 : Nat), (0 :
  Nat), (0 : Nat)), Bool.false, ())) (∀ (a : Bool), a = decide (j > n) → Br a (post (((0 : Nat), (0 : Nat), (0 : Nat)), Bool.false, ())) (∃ (h : WRatio (IntKind.i64.wrap
  (IntKind.i64.wrap ((2 : Int) * i) - n)) n), ∃ (h : WRatio (IntKind.i64.wrap (IntKind.i64.wrap ((2 : Int) * j) - n)) n), ∃ (h : WPoint f (ratioR (IntKind.i64.wrap (IntKind.i64.wrap
  ((2 : Int) * i) - n)) n).fst (ratioR (IntKind.i64.wrap (IntKind.i64.wrap ((2 : Int) * j) - n)) n).fst), post (((pointR f (ratioR (IntKind.i64.wrap (IntKind.i64.wrap ((2 : Int) *
  i) - n)) n).fst (ratioR (IntKind.i64.wrap (IntKind.i64.wrap ((2 : Int) * j) - n)) n).fst).fst.fst, (pointR f (ratioR (IntKind.i64.wrap (IntKind.i64.wrap ((2 : Int) * i) - n))
  n).fst (ratioR (IntKind.i64.wrap (IntKind.i64.wrap ((2 : Int) * j) - n)) n).fst).fst.snd.fst, (pointR f (ratioR (IntKind.i64.wrap (IntKind.i64.wrap ((2 : Int) * i) - n)) n).fst
  (ratioR (IntKind.i64.wrap (IntKind.i64.wrap ((2 : Int) * j) - n)) n).fst).fst.snd.snd), Bool.true, ()))))))))
theorem Lx_geom_Corner (n : Int) (f : Int) (i : Int) (j : Int) (h : IIII n f i j) : Fx_geom_Corner  n f i j (fun r => r = cornerR n f i j) := by
  obtain ⟨hn, hf, hi, hj⟩ := h
  have bad : cornerOk n f i j = false → (((0 : Nat), (0 : Nat), (0 : Nat)), false, ()) = cornerR n f i j := by
    intro e; unfold cornerR; rw [if_neg (by rw [e]; decide)]
  refine ⟨hn, ?_⟩
  rintro _ rfl
  refine Br.intro (fun e => ?_) fun e0 => ?_
  · have e : cellsI n = 0 := by have e : (cellsI n == 0) = true := e; simpa using e
    refine bad ?_
    cases hg : goodC n with
    | false => unfold cornerOk; rw [hg]; rfl
    | true => rw [cells_good hg] at e; have := sq_bd (goodC_iff.1 hg).1 (goodC_iff.1 hg).2; omega
  have e0 : ¬ cellsI n = 0 := by have e : (cellsI n == 0) = false := e0; simpa using e
  have hg : goodC n = true := by
    cases hg : goodC n with
    | false => exact absurd (cells_bad hg) e0
    | true => rfl
  obtain ⟨n1, n2⟩ := goodC_iff.1 hg
  have no : ¬ (0 ≤ f ∧ f ≤ 5 ∧ 0 ≤ i ∧ i ≤ n ∧ 0 ≤ j ∧ j ≤ n) → cornerOk n f i j = false := by
    intro q
    rw [Bool.eq_false_iff]
    intro w
    unfold cornerOk at w
    simp only [Bool.and_eq_true, decide_eq_true_eq] at w
    omega
  rintro _ rfl
  refine Br.intro (fun e => bad (no (by have e := of_decide_eq_true e; omega))) fun e1 => ?_
  have e1 := of_decide_eq_false e1
  rintro _ rfl
  refine Br.intro (fun e => bad (no (by have e := of_decide_eq_true e; omega))) fun e2 => ?_
  have e2 := of_decide_eq_false e2
  rintro _ rfl
  refine Br.intro (fun e => bad (no (by have e := of_decide_eq_true e; omega))) fun e3 => ?_
  have e3 := of_decide_eq_false e3
  rintro _ rfl
  refine Br.intro (fun e => bad (no (by have e := of_decide_eq_true e; omega))) fun e4 => ?_
  have e4 := of_decide_eq_false e4
  rintro _ rfl
  refine Br.intro (fun e => bad (no (by have e := of_decide_eq_true e; omega))) fun e5 => ?_
  have e5 := of_decide_eq_false e5
  rintro _ rfl
  refine Br.intro (fun e => bad (no (by have e := of_decide_eq_true e; omega))) fun e6 => ?_
  have e6 := of_decide_eq_false e6
  obtain ⟨w1, w2⟩ := ratio_wrap n1 n2 (i := i) (by omega) (by omega)
  obtain ⟨w3, w4⟩ := ratio_wrap n1 n2 (i := j) (by omega) (by omega)
  rw [w1, w3]
  refine ⟨w2, w4, ⟨by omega, by omega, divQF_w _ _, divQF_w _ _⟩, ?_⟩
  have ok : cornerOk n f i j = true := by
    unfold cornerOk
    rw [hg, decide_eq_true (by omega), decide_eq_true (by omega), decide_eq_true (by omega), decide_eq_true (by omega), decide_eq_true (by omega), decide_eq_true (by omega)]
    rfl
  unfold cornerR; rw [if_pos ok]; rfl
def Fx_geom_corners := fun (n c : Int) (post : List (Nat × Nat × Nat) × Bool × Unit → Prop) => ∃ (h : II n c), Br (!(placeR4 n c).snd.snd.snd.fst) (∃ (h : (List.replicate (4 : Nat)
  ((K.flt Go.FloatKind.f64).pair ((K.flt Go.FloatKind.f64).pair (K.flt Go.FloatKind.f64))).dflt).length = (4 : Nat) ∧ (4 : Nat) = (4 : Nat)), ∃ (h : (4 : Nat) = (4 : Nat)), post
  ([((0 : Nat), (0 : Nat), (0 : Nat)), ((0 : Nat), (0 : Nat), (0 : Nat)), ((0 : Nat), (0 : Nat), (0 : Nat)), ((0 : Nat), (0 : Nat), (0 : Nat))], Bool.false, ())) (∃ (h : (0 : Int) ≤
  (0 : Int) ∧ (0 : Int) < (↑(4 : Nat) : Int)), ∃ (h : (List.replicate (2 : Nat) (0 : Int)).length = (2 : Nat) ∧ List.length ([[(0 : Int), (0 : Int)], [(1 : Int), (0 : Int)], [(1 :
  Int), (1 : Int)], [(0 : Int), (1 : Int)]].getD (Int.toNat (0 : Int)) (K.arr (2 : Nat) (K.int IntKind.i64)).dflt) = (2 : Nat)), ∃ (h : (0 : Int) ≤ (0 : Int) ∧ (0 : Int) < (↑(2 :
  Nat) : Int) ∧ (2 : Nat) ≤ List.length ([[(0 : Int), (0 : Int)], [(1 : Int), (0 : Int)], [(1 : Int), (1 : Int)], [(0 : Int), (1 : Int)]].getD (Int.toNat (0 : Int)) (K.arr (2 : Nat)
  (K.int IntKind.i64)).dflt)), ∃ (h : (0 : Int) ≤ (1 : Int) ∧ (1 : Int) < (↑(2 : Nat) : Int) ∧ (2 : Nat) ≤ List.length ([[(0 : Int), (0 : Int)], [(1 : Int), (0 : Int)], [(1 : Int),
  (1 : Int)], [(0 : Int), (1 : Int)]].getD (Int.toNat (0 : Int)) (K.arr (2 : Nat) (K.int IntKind.i64)).dflt)), ∃ (h : IIII n (placeR4 n c).fst (IntKind.i64.wrap ((placeR4 n
  c).snd.fst + List.getD ([[(0 : Int), (0 : Int)], [(1 : Int), (0 : Int)], [(1 : Int), (1 : Int)], [(0 : Int), (1 : Int)]].getD (Int.toNat (0 : Int)) (K.arr (2 : Nat) (K.int
  IntKind.i64)).dflt) (Int.toNat (0 : Int)) (0 : Int))) (IntKind.i64.wrap ((placeR4 n c).snd.snd.fst + List.getD ([[(0 : Int), (0 : Int)], [(1 : Int), (0 : Int)], [(1 : Int), (1 :
  Int)], [(0 : Int), (1 : Int)]].getD (Int.toNat (0 : Int)) (K.arr (2 : Nat) (K.int IntKind.i64)).dflt) (Int.toNat (1 : Int)) (0 : Int)))), ∃ (h : (0 : Int) ≤ (0 : Int) ∧ (0 : Int)
  < (↑(4 : Nat) : Int) ∧ (4 : Nat) ≤ (List.replicate (4 : Nat) ((K.flt Go.FloatKind.f64).pair ((K.flt Go.FloatKind.f64).pair (K.flt Go.FloatKind.f64))).dflt).length), ∃ (h : (0 :
  Int) ≤ IntKind.i64.wrap ((0 : Int) + (1 : Int)) ∧ IntKind.i64.wrap ((0 : Int) + (1 : Int)) < (↑(4 : Nat) : Int)), ∃ (h : (List.replicate (2 : Nat) (0 : Int)).length = (2 : Nat) ∧
  List.length ([[(0 : Int), (0 : Int)], [(1 : Int), (0 : Int)], [(1 : Int), (1 : Int)], [(0 : Int), (1 : Int)]].getD (IntKind.i64.wrap ((0 : Int) + (1 : Int))).toNat (K.arr (2 :
  Nat) (K.int IntKind.i64)).dflt) = (2 : Nat)), ∃ (h : (0 : Int) ≤ (0 : Int) ∧ (0 : Int) < (↑(2 : Nat) : Int) ∧ (2 : Nat) ≤ List.length ([[(0 : Int), (0 : Int)], [(1 : Int), (0 :
  Int)], [(1 : Int), (1 : Int)], [(0 : Int), (1 : Int)]].getD (IntKind.i64.wrap ((0 : Int) + (1 : Int))).toNat (K.arr (2 : Nat) (K.int IntKind.i64)).dflt)), ∃ (h : (0 : Int) ≤ (1 :
  Int) ∧ (1 : Int) < (↑(2 : Nat) : Int) ∧ (2 : Nat) ≤ List.length ([[(0 : Int), (0 : Int)], [(1 : Int), (0 : Int)], [(1 : Int), (1 : Int)], [(0 : Int), (1 : Int)]].getD
  (IntKind.i64.wrap ((0 : Int) + (1 : Int))).toNat (K.arr (2 : Nat) (K.int IntKind.i64)).dflt)), ∃ (h : IIII n (placeR4 n c).fst (IntKind.i64.wrap ((placeR4 n c).snd.fst + List.getD
  ([[(0 : Int), (0 : Int)], [(1 : Int), (0 : Int)], [(1 : Int), (1 : Int)], [(0 : Int), (1 : Int)]].getD (IntKind.i64.wrap ((0 : Int) + (1 : Int))).toNat (K.arr (2 : Nat) (K.int
  IntKind.i64)).dflt) (Int.toNat (0 : Int)) (0 : Int))) (IntKind.i64.wrap ((placeR4 n c).snd.snd.fst + List.getD ([[(0 : Int), (0 : Int)], [(1 : Int), (0 : Int)], [(1 : Int), (1 :
  Int)], [(0 : Int), (1 : Int)]].getD (IntKind.i64.wrap ((0 : Int) + (1 : Int))).toNat (K.arr (2 : Nat) (K.int IntKind.i64)).dflt) (Int.toNat (1 : Int)) (0 : Int)))), ∃ (h : (0 :
  Int) ≤ IntKind.i64.wrap ((0 : Int) + (1 : Int)) ∧ IntKind.i64.wrap ((0 : Int) + (1 : Int)) < (↑(4 : Nat) : Int) ∧ (4 : Nat) ≤ ((List.replicate (4 : Nat) ((K.flt
  Go.FloatKind.f64).pair ((K.flt Go.FloatKind.f64).pair (K.flt Go.FloatKind.f64))).dflt).set (Int.toNat (0 : Int)) (cornerR n (placeR4 n c).fst (IntKind.i64.wrap ((placeR4 n
  c).snd.fst + List.getD ([[(0 : Int), (0 : Int)], [(1 : Int), (0 : Int)], [(1 : Int), (1 : Int)], [(0 : Int), (1 : Int)]].getD (Int.toNat (0 : Int)) (K.arr (2 : Nat) (K.int
  IntKind.i64)).dflt) (Int.toNat (0 : Int)) (0 : Int))) (IntKind.i64.wrap ((placeR4 n c).snd.snd.fst + List.getD ([[(0 : Int), (0 : Int)], [(1 : Int), (0 : Int)], [(1 : Int), (1 :
  Int)], [(0 : Int), (1 : Int)]].getD (Int.toNat (0 : Int)) (K.arr (2 : Nat) (K.int IntKind.i64)).dflt) (Int.toNat (1 : Int)) (0 : Int)))).fst).length), ∃ (h : (0 : Int) ≤
  IntKind.i64.wrap (IntKind.i64.wrap ((0 : Int) + (1 : Int)) + (1 : Int)) ∧ IntKind.i64.wrap (IntKind.i64.wrap ((0 : Int) + (1 : Int)) + (1 : Int)) < (↑(4 : Nat) : Int)), ∃ (h :
  (List.replicate (2 : Nat) (0 : Int)).length = (2 : Nat) ∧ List.length ([[(0 : Int), (0 : Int)], [(1 : Int), (0 : Int)], [(1 : Int), (1 : Int)], [(0 : Int), (1 : Int)]].getD
  (IntKind.i64.wrap (IntKind.i64.wrap ((0 : Int) + (1 : Int)) + (1 : Int))).toNat (K.arr (2 : Nat) (K.int IntKind.i64)).dflt) = (2 : Nat)), ∃ (h : (0 : Int) ≤ (0 : Int) ∧ (0 : Int)
  < (↑(2 : Nat) : Int) ∧ (2 : Nat) ≤ List.length ([[(0 : Int), (0 : Int)], [(1 : Int), (0 : Int)], [(1 : Int), (1 : Int)], [(0 : Int), (1 : Int)]].getD (IntKind.i64.wrap
  (IntKind.i64.wrap ((0 : Int) + (1 : Int)) + (1 : Int))).toNat (K.arr (2 : Nat) (K.int IntKind.i64)).dflt)), ∃ (h : (0 : Int) ≤ (1 : Int) ∧ (1 : Int) < (↑(2 : Nat) : Int) ∧ (2 :
  Nat) ≤ List.length ([[(0 : Int), (0 : Int)], [(1 : Int), (0 : Int)], [(1 : Int), (1 : Int)], [(0 : Int), (1 : Int)]].getD (IntKind.i64.wrap (IntKind.i64.wrap ((0 : Int) + (1 :
  Int)) + (1 : Int))).toNat (K.arr (2 : Nat) (K.int IntKind.i64)).dflt)), ∃ (h : IIII n (placeR4 n c).fst (IntKind.i64.wrap ((placeR4 n c).snd.fst + List.getD ([[(0 : Int), (0 :
  Int)], [(1 : Int), (0 : Int)], [(1 : Int), (1 : Int)], [(0 : Int), (1 : Int)]].getD (IntKind.i64.wrap (IntKind.i64.wrap ((0 : Int) + (1 : Int)) + (1 : Int))).toNat (K.arr (2 :
  Nat) (K.int IntKind.i64)).dflt) (Int.toNat (0 : Int)) (0 : Int))) (IntKind.i64.wrap ((placeR4 n c).snd.snd.fst + List.getD ([[(0 : Int), (0 : Int)], [(1 : Int), (0 : Int)], [(1 :
  Int), (1 : Int)], [(0 : Int), (1 : Int)]].getD (IntKind.i64.wrap (IntKind.i64.wrap ((0 : Int) + (1 : Int)) + (1 : Int))).toNat (K.arr (2 : Nat) (K.int IntKind.i64)).dflt)
  (Int.toNat (1 : Int)) (0 : Int)))), ∃ (h : (0 : Int) ≤ IntKind.i64.wrap (IntKind.i64.wrap ((0 : Int) + (1 : Int)) + (1 : Int)) ∧ IntKind.i64.wrap (IntKind.i64.wrap ((0 : Int) + (1
  : Int)) + (1 : Int)) < (↑(4 : Nat) : Int) ∧ (4 : Nat) ≤ (((List.replicate (4 : Nat) ((K.flt Go.FloatKind.f64).pair ((K.flt Go.FloatKind.f64).pair (K.flt
  Go.FloatKind.f64))).dflt).set (Int.toNat (0 : Int)) (cornerR n (placeR4 n c).fst (IntKind.i64.wrap ((placeR4 n c).snd.fst + List.getD ([[(0 : Int), (0 : Int)], [(1 : Int), (0 :
  Int)], [(1 : Int), (1 : Int)], [(0 : Int), (1 : Int)]].getD (Int.toNat (0 : Int)) (K.arr (2 : Nat) (K.int IntKind.i64)).dflt) (Int.toNat (0 : Int)) (0 : Int))) (IntKind.i64.wrap
  ((placeR4 n c).snd.snd.fst + List.getD ([[(0 : Int), (0 : Int)], [(1 : Int), (0 : Int)], [(1 : Int), (1 : Int)], [(0 : Int), (1 : Int)]].getD (Int.toNat (0 : Int)) (K.arr (2 :
  Nat) (K.int IntKind.i64)).dflt) (Int.toNat (1 : Int)) (0 : Int)))).fst).set (IntKind.i64.wrap ((0 : Int) + (1 : Int))).toNat (cornerR n (placeR4 n c).fst (IntKind.i64.wrap
  ((placeR4 n c).snd.fst + List.getD ([[(0 : Int), (0 : Int)], [(1 : Int), (0 : Int)], [(1 : Int), (1 : Int)], [(0 : Int), (1 : Int)]].getD (IntKind.i64.wrap ((0 : Int) + (1 :
  Int))).toNat (K.arr (2 : Nat) (K.int IntKind.i64)).dflt) (Int.toNat (0 : Int)) (0 : Int))) (IntKind.i64.wrap ((placeR4 n c).snd.snd.fst + List.getD ([[(0 : Int), (0 : Int)], [(1 :
  Int), (0 : Int)], [(1 : Int), (1 : Int)], [(0 : Int), (1 : Int)]].getD (IntKind.i64.wrap ((0 : Int) + (1 : Int))).toNat (K.arr (2 : Nat) (K.int IntKind.i64)).dflt) (Int.toNat (1 :
  Int)) (0 : Int)))).fst).length), ∃ (h : (0 : Int) ≤ IntKind.i64.wrap (IntKind.i64.wrap (IntKind.i64.wrap ((0 : Int) + (1 : Int)) + (1 : Int)) + (1 : Int)) ∧ IntKind.i64.wrap
  (IntKind.i64.wrap (IntKind.i64.wrap ((0 : Int) + (1 : Int)) + (1 : Int)) + (1 : Int)) < (↑(4 : Nat) : Int)), ∃ (h : (List.replicate (2 : Nat) (0 : Int)).length = (2 : Nat) ∧
  List.length ([[(0 : Int), (0 : Int)], [(1 : Int), (0 : Int)], [(1 : Int), (1 : Int)], [(0 : Int), (1 : Int)]].getD (IntKind.i64.wrap (IntKind.i64.wrap (IntKind.i64.wrap ((0 : Int)
  + (1 : Int)) + (1 : Int)) + (1 : Int))).toNat (K.arr (2 : Nat) (K.int IntKind.i64)).dflt) = (2 : Nat)), ∃ (h : (0 : Int) ≤ (0 : Int) ∧ (0 : Int) < (↑(2 : Nat) : Int) ∧ (2 : Nat) ≤
  List.length ([[(0 : Int), (0 : Int)], [(1 : Int), (0 : Int)], [(1 : Int), (1 : Int)], [(0 : Int), (1 : Int)]].getD (IntKind.i64.wrap (IntKind.i64.wrap (IntKind.i64.wrap ((0 : Int)
  + (1 : Int)) + (1 : Int)) + (1 : Int))).toNat (K.arr (2 : Nat) (K.int IntKind.i64)).dflt)), ∃ (h : (0 : Int) ≤ (1 : Int) ∧ (1 : Int) < (↑(2 : Nat) : Int) ∧ (2 : Nat) ≤ List.length
  ([[(0 : Int), (0 : Int)], [(1 : Int), (0 : Int)], [(1 : Int), (1 : Int)], [(0 : Int), (1 : Int)]].getD (IntKind.i64.wrap (IntKind.i64.wrap (IntKind.i64.wrap ((0 : Int) + (1 :
  Int)) + (1 : Int)) + (1 : Int))).toNat (K.arr (2 : Nat) (K.int IntKind.i64)).dflt)), ∃ (h : IIII n (placeR4 n c).fst (IntKind.i64.wrap ((placeR4 n c).snd.fst + List.getD ([[(0 :
  Int), (0 : Int)], [(1 : Int), (0 : Int)], [(1 : Int), (1 : Int)], [(0 : Int), (1 : Int)]].getD (IntKind.i64.wrap (IntKind.i64.wrap (IntKind.i64.wrap ((0 : Int) + (1 : Int)) + (1 :
  Int)) + (1 : Int))).toNat (K.arr (2 : Nat) (K.int IntKind.i64)).dflt) (Int.toNat (0 : Int)) (0 : Int))) (IntKind.i64.wrap ((placeR4 n c).snd.snd.fst + List.getD ([[(0 : Int), (0 :
  Int)], [(1 : Int), (0 : Int)], [(1 : Int), (1 : Int)], [(0 : Int), (1 : Int)]].getD (IntKind.i64.wrap (IntKind.i64.wrap (IntKind.i64.wrap ((0 : Int) + (1 : Int)) + (1 : Int)) + (1
  : Int))).toNat (K.arr (2 : Nat) (K.int IntKind.i64)).dflt) (Int.toNat (1 : Int)) (0 : Int)))), ∃ (h : (0 : Int) ≤ IntKind.i64.wrap (IntKind.i64.wrap (IntKind.i64.wrap ((0 : Int) +
  (1 : Int)) + (1 : Int)) + (1 : Int)) ∧ IntKind.i64.wrap (IntKind.i64.wrap (IntKind.i64.wrap ((0 : Int) + (1 : Int)) + (1 : Int)) + (1 : Int)) < (↑(4 : Nat) : Int) ∧ (4 : Nat) ≤
  ((((List.replicate (4 : Nat) ((K.flt Go.FloatKind.f64).pair ((K.flt Go.FloatKind.f64).pair (K.flt Go.FloatKind.f64))).dflt).set (Int.toNat (0 : Int)) (cornerR n (placeR4 n c).fst
  (IntKind.i64.wrap ((placeR4 n c).snd.fst + List.getD ([[(0 : Int), (0 : Int)], [(1 : Int), (0 : Int)], [(1 : Int), (1 : Int)], [(0 : Int), (1 : Int)]].getD (Int.toNat (0 : Int))
  (K.arr (2 : Nat) (K.int IntKind.i64)).dflt) (Int.toNat (0 : Int)) (0 : Int))) (IntKind.i64.wrap ((placeR4 n c).snd.snd.fst + List.getD ([[(0 : Int), (0 : Int)], [(1 : Int), (0 :
  Int)], [(1 : Int), (1 : Int)], [(0 : Int), (1 : Int)]].getD (Int.toNat (0 : Int)) (K.arr (2 : Nat) (K.int IntKind.i64)).dflt) (Int.toNat (1 : Int)) (0 : Int)))).fst).set
  (IntKind.i64.wrap ((0 : Int) + (1 : Int))).toNat (cornerR n (placeR4 n c).fst (IntKind.i64.wrap ((placeR4 n c).snd.fst + List.getD ([[(0 : Int), (0 : Int)], [(1 : Int), (0 :
  Int)], [(1 : Int), (1 : Int)], [(0 : Int), (1 : Int)]].getD (IntKind.i64.wrap ((0 : Int) + (1 : Int))).toNat (K.arr (2 : Nat) (K.int IntKind.i64)).dflt) (Int.toNat (0 : Int)) (0 :
  Int))) (IntKind.i64.wrap ((placeR4 n c).snd.snd.fst + List.getD ([[(0 : Int), (0 : Int)], [(1 : Int), (0 : Int)], [(1 : Int), (1 : Int)], [(0 : Int), (1 : Int)]].getD
  (IntKind.i64.wrap ((0 : Int) + (1 : Int))).toNat (K.arr (2 : Nat) (K.int IntKind.i64)).dflt) (Int.toNat (1 : Int)) (0 : Int)))).fst).set (IntKind.i64.wrap (IntKind.i64.wrap ((0 :
  Int) + (1 : Int)) + (1 : Int))).toNat (cornerR n (placeR4 n c).fst (IntKind.i64.wrap ((placeR4 n c).snd.fst + List.getD ([[(0 : Int), (0 : Int)], [(1 : Int), (0 : Int)], [(1 :
  Int), (1 : Int)], [(0 : Int), (1 : Int)]].getD (IntKind.i64.wrap (IntKind.i64.wrap ((0 : Int) + (1 : Int)) + (1 : Int))).toNat (K.arr (2 : Nat) (K.int IntKind.i64)).dflt)
  (Int.toNat (0 : Int)) (0 : Int))) (IntKind.i64.wrap ((placeR4 n c).snd.snd.fst + List.getD ([[(0 : Int), (0 : Int)], [(1 : Int), (0 : Int)], [(1 : Int), (1 : Int)], [(0 : Int), (1
  : Int)]].getD (IntKind.i64.wrap (IntKind.i64.wrap ((0 : Int) + (1 : Int)) + (1 : Int))).toNat (K.arr (2 : Nat) (K.int IntKind.i64)).dflt) (Int.toNat (1 : Int)) (0 :
  Int)))).fst).length), ∃ (h : (((((List.replicate (4 : Nat) ((K.flt Go.FloatKind.f64).pair ((K.flt Go.FloatKind.f64).pair (K.flt Go.FloatKind.f64))).dflt).set (Int.toNat (0 : Int))
  (cornerR n (placeR4 n c).fst (IntKind.i64.wrap ((placeR4 n c).snd.fst + List.getD ([[(0 : Int), (0 : Int)], [(1 : Int), (0 : Int)], [(1 : Int), (1 : Int)], [(0 : Int), (1 :
  Int)]].getD (Int.toNat (0 : Int)) (K.arr (2 : Nat) (K.int IntKind.i64)).dflt) (Int.toNat (0 : Int)) (0 : Int))) (IntKind.i64.wrap ((placeR4 n c).snd.snd.fst + List.getD ([[(0 :
  Int), (0 : Int)], [(1 : Int), (0 : Int)], [(1 : Int), (1 : Int)], [(0 : Int), (1 : Int)]].getD (Int.toNat (0 : Int)) (K.arr (2 : Nat) (K.int IntKind.i64)).dflt) (Int.toNat (1 :
  Int)) (0 : Int)))).fst).set (IntKind.i64.wrap ((0 : Int) + (1 : Int))).toNat (cornerR n (placeR4 n c).fst (IntKind.i64.wrap ((placeR4 n c).snd.fst + List.getD ([[(0 : Int), (0 :
  Int)], [(1 : Int), (0 : Int)], [(1 : Int), (1 : Int)], [(0 : Int), (1 : Int)]].getD (IntKind.i64.wrap ((0 : Int) + (1 : Int))).toNat (K.arr (2 : Nat) (K.int IntKind.i64)).dflt)
  (Int.toNat (0 : Int)) (0 : Int))) (IntKind.i64.wrap ((placeR4 n c).snd.snd.fst + List.getD ([[(0 : Int), (0 : Int)], [(1 : Int), (0 : Int)], [(1 : Int), (1 : Int)], [(0 : Int), (1
  : Int)]].getD (IntKind.i64.wrap ((0 : Int) + (1 : Int))).toNat (K.arr (2 : Nat) (K.int IntKind.i64)).dflt) (Int.toNat (1 : Int)) (0 : Int)))).fst).set (IntKind.i64.wrap
  (IntKind.i64.wrap ((0 : Int) + (1 : Int)) + (1 : Int))).toNat (cornerR n (placeR4 n c).fst (IntKind.i64.wrap ((placeR4 n c).snd.fst + List.getD ([[(0 : Int), (0 : Int)], [(1 :
  Int), (0 : Int)], [(1 : Int), (1 : Int)], [(0 : Int), (1 : Int)]].getD (IntKind.i64.wrap (IntKind.i64.wrap ((0 : Int) + (1 : Int)) + (1 : Int))).toNat (K.arr (2 : Nat) (K.int
  IntKind.i64)).dflt) (Int.toNat (0 : Int)) (0 : Int))) (IntKind.i64.wrap ((placeR4 n c).snd.snd.fst + List.getD ([[(0 : Int), (0 : Int)], [(1 : Int), (0 : Int)], [(1 : Int), (1 :
  Int)], [(0 : Int), (1 : Int)]].getD (IntKind.i64.wrap (IntKind.i64.wrap ((0 : Int) + (1 : Int)) + (1 : Int))).toNat (K.arr (2 : Nat) (K.int IntKind.i64)).dflt) (Int.toNat (1 :
  Int)) (0 : Int)))).fst).set (IntKind.i64.wrap (IntKind.i64.wrap (IntKind.i64.wrap ((0 : Int) + (1 : Int)) + (1 : Int)) + (1 : Int))).toNat (cornerR n (placeR4 n c).fst
  (IntKind.i64.wrap ((placeR4 n c).snd.fst + List.getD ([[(0 : Int), (0 : Int)], [(1 : Int), (0 : Int)], [(1 : Int), (1 : Int)], [(0 : Int), (1 : Int)]].getD (IntKind.i64.wrap
  (IntKind.i64.wrap (IntKind.i64.wrap ((0 : Int) + (1 : Int)) + (1 : Int)) + (1 : Int))).toNat (K.arr (2 : Nat) (K.int IntKind.i64)).dflt) (Int.toNat (0 : Int)) (0 : Int)))
  (IntKind.i64.wrap ((placeR4 n c).snd.snd.fst + List.getD ([[(0 : Int), (0 : Int)], [(1 : Int), (0 : Int)], [(1 : Int), (1 : Int)], [(0 : Int), (1 : Int)]].getD (IntKind.i64.wrap
  (IntKind.i64.wrap (IntKind.i64.wrap ((0 : Int) + (1 : Int)) + (1 : Int)) + (1 : Int))).toNat (K.arr (2 : Nat) (K.int IntKind.i64)).dflt) (Int.toNat (1 : Int)) (0 :
  Int)))).fst).length = (4 : Nat)), ∃ (h : (List.replicate (4 : Nat) ((K.flt Go.FloatKind.f64).pair ((K.flt Go.FloatKind.f64).pair (K.flt Go.FloatKind.f64))).dflt).length = (4 :
  Nat) ∧ (((((List.replicate (4 : Nat) ((K.flt Go.FloatKind.f64).pair ((K.flt Go.FloatKind.f64).pair (K.flt Go.FloatKind.f64))).dflt).set (Int.toNat (0 : Int)) (cornerR n (placeR4 n
  c).fst (IntKind.i64.wrap ((placeR4 n c).snd.fst + List.getD ([[(0 : Int), (0 : Int)], [(1 : Int), (0 : Int)], [(1 : Int), (1 : Int)], [(0 : Int), (1 : Int)]].getD (Int.toNat (0 :
  Int)) (K.arr (2 : Nat) (K.int IntKind.i64)).dflt) (Int.toNat (0 : Int)) (0 : Int))) (IntKind.i64.wrap ((placeR4 n c).snd.snd.fst + List.getD ([[(0 : Int), (0 : Int)], [(1 : Int),
  (0 : Int)], [(1 : Int), (1 : Int)], [(0 : Int), (1 : Int)]].getD (Int.toNat (0 : Int)) (K.arr (2 : Nat) (K.int IntKind.i64)).dflt) (Int.toNat (1 : Int)) (0 : Int)))).fst).set
  (IntKind.i64.wrap ((0 : Int) + (1 : Int))).toNat (cornerR n (placeR4 n c).fst (IntKind.i64.wrap ((placeR4 n c).snd.fst + List.getD ([[(0 : Int), (0 : Int)], [(1 : Int), (0 :
  Int)], [(1 : Int), (1 : Int)], [(0 : Int), (1 : Int)]].getD (IntKind.i64.wrap ((0 : Int) + (1 : Int))).toNat (K.arr (2 : Nat) (K.int IntKind.i64)).dflt) (Int.toNat (0 : Int)) (0 :
  Int))) (IntKind.i64.wrap ((placeR4 n c).snd.snd.fst + List.getD ([[(0 : Int), (0 : Int)], [(1 : Int), (0 : Int)], [(1 : Int), (1 : Int)], [(0 : Int), (1 : Int)]].getD
  (IntKind.i64.wrap ((0 : Int) + (1 : Int))).toNat (K.arr (2 : Nat) (K.int IntKind.i64)).dflt) (Int.toNat (1 : Int)) (0 : Int)))).fst).set (IntKind.i64.wrap (IntKind.i64.wrap ((0 :
  Int) + (1 : Int)) + (1 : Int))).toNat (cornerR n (placeR4 n c).fst (IntKind.i64.wrap ((placeR4 n c).snd.fst + List.getD ([[(0 : Int), (0 : Int)], [(1 : Int), (0 : Int)], [(1 :
  Int), (1 : Int)], [(0 : Int), (1 : Int)]].getD (IntKind.i64.wrap (IntKind.i64.wrap ((0 : Int) + (1 : Int)) + (1 : Int))).toNat (K.arr (2 : Nat) (K.int IntKind.i64)).dflt)
  (Int.toNat (0 : Int)) (0 : Int))) (IntKind.i64.wrap ((placeR4 n c).snd.snd.fst + List.getD ([[(0 : Int), (0 : Int)], [(1 : Int), (0 : Int)], [(1 : Int), (1 : Int)], [(0 : Int), (1
  : Int)]].getD (IntKind.i64.wrap (IntKind.i64.wrap ((0 : Int) + (1 : Int)) + (1 : Int))).toNat (K.arr (2 : Nat) (K.int IntKind.i64)).dflt) (Int.toNat (1 : Int)) (0 :
  Int)))).fst).set (IntKind.i64.wrap (IntKind.i64.wrap (IntKind.i64.wrap ((0 : Int) + (1 : Int)) + (1 : Int)) + (1 : Int))).toNat (cornerR n (placeR4 n c).fst (IntKind.i64.wrap
  ((placeR4 n c).snd.fst + List.getD ([[(0 : Int), (0 : Int)], [(1 : Int), (0 : Int)], [(1 : Int), (1 : Int)], [(0 : Int), (1 : Int)]].getD (IntKind.i64.wrap (IntKind.i64.wrap
  (IntKind.i64.wrap ((0 : Int) + (1 : Int)) + (1 : Int)) + (1 : Int))).toNat (K.arr (2 : Nat) (K.int IntKind.i64)).dflt) (Int.toNat (0 : Int)) (0 : Int))) (IntKind.i64.wrap
  ((placeR4 n c).snd.snd.fst + List.getD ([[(0 : Int), (0 : Int)], [(1 : Int), (0 : Int)], [(1 : Int), (1 : Int)], [(0 : Int), (1 : Int)]].getD (IntKind.i64.wrap (IntKind.i64.wrap
  (IntKind.i64.wrap ((0 : Int) + (1 : Int)) + (1 : Int)) + (1 : Int))).toNat (K.arr (2 : Nat) (K.int IntKind.i64)).dflt) (Int.toNat (1 : Int)) (0 : Int)))).fst).length = (4 : Nat)),
  ∃ (h : (((((List.replicate (4 : Nat) ((K.flt Go.FloatKind.f64).pair ((K.flt Go.FloatKind.f64).pair (K.flt Go.FloatKind.f64))).dflt).set (Int.toNat (0 : Int)) (cornerR n (placeR4 n
  c).fst (IntKind.i64.wrap ((placeR4 n c).snd.fst + List.getD ([[(0 : Int), (0 : Int)], [(1 : Int), (0 : Int)], [(1 : Int), (1 : Int)], [(0 : Int), (1 : Int)]].getD (Int.toNat (0 :
  Int)) (K.arr (2 : Nat) (K.int IntKind.i64)).dflt) (Int.toNat (0 : Int)) (0 : Int))) (IntKind.i64.wrap ((placeR4 n c).snd.snd.fst + List.getD ([[(0 : Int), (0 : Int)], [(1 : Int),
  (0 : Int)], [(1 : Int), (1 : Int)], [(0 : Int), (1 : Int)]].getD (Int.toNat (0 : Int)) (K.arr (2 : Nat) (K.int IntKind.i64)).dflt) (Int.toNat (1 : Int)) (0 : Int)))).fst).set
  (IntKind.i64.wrap ((0 : Int) + (1 : Int))).toNat (cornerR n (placeR4 n c).fst (IntKind.i64.wrap ((placeR4 n c).snd.fst + List.getD ([[(0 : Int), (0 : Int)], [(1 : Int), (0 :
  Int)], [(1 : Int), (1 : Int)], [(0 : Int), (1 : Int)]].getD (IntKind.i64.wrap ((0 : Int) + (1 : Int))).toNat (K.arr (2 : Nat) (K.int IntKind.i64)).dflt) (Int.toNat (0 : Int)) (0 :
  Int))) (IntKind.i64.wrap ((placeR4 n c).snd.snd.fst + List.getD ([[(0 : Int), (0 : Int)], [(1 : Int), (0 : Int)], [(1 : Int), (1 : Int)], [(0 : Int), (1 : Int)]].getD
  (IntKind.i64.wrap ((0 : Int) + (1 : Int))).toNat (K.arr (2 : Nat) (K.int IntKind.i64)).dflt) (Int.toNat (1 : Int)) (0 : Int)))).fst).set (IntKind.i64.wrap (IntKind.i64.wrap ((0 :
  Int) + (1 : Int)) + (1 : Int))).toNat (cornerR n (placeR4 n c).fst (IntKind.i64.wrap ((placeR4 n c).snd.fst + List.getD ([[(0 : Int), (0 : Int)], [(1 : Int), (0 : Int)], [(1 :
  Int), (1 : Int)], [(0 : Int), (1 : Int)]].getD (IntKind.i64.wrap (IntKind.i64.wrap ((0 : Int) + (1 : Int)) + (1 : Int))).toNat (K.arr (2 : Nat) (K.int IntKind.i64)).dflt)
  (Int.toNat (0 : Int)) (0 : Int))) (IntKind.i64.wrap ((placeR4 n c).snd.snd.fst + List.getD ([[(0 : Int), (0 : Int)], [(1 : Int), (0 : Int)], [(1 : Int), (1 : Int)], [(0 : Int), (1
  : Int)]].getD (IntKind.i64.wrap (IntKind.i64.wrap ((0 : Int) + (1 : Int)) + (1 : Int))).toNat (K.arr (2 : Nat) (K.int IntKind.i64)).dflt) (Int.toNat (1 : Int)) (0 :
  Int)))).fst).set (IntKind.i64.wrap (IntKind.i64.wrap (IntKind.i64.wrap ((0 : Int) + (1 : Int)) + (1 : Int)) + (1 : Int))).toNat (cornerR n (placeR4 n c).fst (IntKind.i64.wrap
  ((placeR4 n c).snd.fst + List.getD ([[(0 : Int), (0 : Int)], [(1 : Int), (0 : Int)], [(1 : Int), (1 : Int)], [(0 : Int), (1 : Int)]].getD (IntKind.i64.wrap (IntKind.i64.wrap
  (IntKind.i64.wrap ((0 : Int) + (1 : Int)) + (1 : Int)) + (1 : Int))).toNat (K.arr (2 : Nat) (K.int IntKind.i64)).dflt) (Int.toNat (0 : Int)) (0 : Int))) (IntKind.i64.wrap
  ((placeR4 n c).snd.snd.fst + List.getD ([[(0 : Int), (0 : Int)], [(1 : Int), (0 : Int)], [(1 : Int), (1 : Int)], [(0 : Int), (1 : Int)]].getD (IntKind.i64.wrap (IntKind.i64.wrap
  (IntKind.i64.wrap ((0 : Int) + (1 : Int)) + (1 : Int)) + (1 : Int))).toNat (K.arr (2 : Nat) (K.int IntKind.i64)).dflt) (Int.toNat (1 : Int)) (0 : Int)))).fst).length = (4 : Nat)),
  post (((((List.replicate (4 : Nat) ((K.flt Go.FloatKind.f64).pair ((K.flt Go.FloatKind.f64).pair (K.flt Go.FloatKind.f64))).dflt).set (Int.toNat (0 : Int)) (cornerR n (placeR4 n
  c).fst (IntKind.i64.wrap ((placeR4 n c).snd.fst + List.getD ([[(0 : Int), (0 : Int)], [(1 : Int), (0 : Int)], [(1 : Int), (1 : Int)], [(0 : Int), (1 : Int)]].getD (Int.toNat (0 :
  Int)) (K.arr (2 : Nat) (K.int IntKind.i64)).dflt) (Int.toNat (0 : Int)) (0 : Int))) (IntKind.i64.wrap ((placeR4 n c).snd.snd.fst + List.getD ([[(0 : Int), (0 : Int)], [(1 : Int),
  (0 : Int)], [(1 : Int), (1 : Int)], [(0 : Int), (1 : Int)]].getD (Int.toNat (0 : Int)) (K.arr (2 : Nat) (K.int IntKind.i64)).dflt) (Int.toNat (1 : Int)) (0 : Int)))).fst).set
  (IntKind.i64.wrap ((0 : Int) + (1 : Int))).toNat (cornerR n (placeR4 n c).fst (IntKind.i64.wrap ((placeR4 n c).snd.fst + List.getD ([[(0 : Int), (0 : Int)], [(1 : Int), (0 :
  Int)], [(1 : Int), (1 : Int)], [(0 : Int), (1 : Int)]].getD (IntKind.i64.wrap ((0 : Int) + (1 : Int))).toNat (K.arr (2 : Nat) (K.int IntKind.i64)).dflt) (Int.toNat (0 : Int)) (0 :
  Int))) (IntKind.i64.wrap ((placeR4 n c).snd.snd.fst + List.getD ([[(0 : Int), (0 : Int)], [(1 : Int), (0 : Int)], [(1 : Int), (1 : Int)], [(0 : Int), (1 : Int)]].getD
  (IntKind.i64.wrap ((0 : Int) + (1 : Int))).toNat (K.arr (2 : Nat) (K.int IntKind.i64)).dflt) (Int.toNat (1 : Int)) (0 : Int)))).fst).set (IntKind.i64.wrap (IntKind.i64.wrap ((0 :
  Int) + (1 : Int)) + (1 : Int))).toNat (cornerR n (placeR4 n c).fst (IntKind.i64.wrap ((placeR4 n c).snd.fst + List.getD ([[(0 : Int), (0 : Int)], [(1 : Int), (0 : Int)], [(1 :
  Int), (1 : Int)], [(0 : Int), (1 : Int)]].getD (IntKind.i64.wrap (IntKind.i64.wrap ((0 : Int) + (1 : Int)) + (1 : Int))).toNat (K.arr (2 : Nat) (K.int IntKind.i64)).dflt)
  (Int.toNat (0 : Int)) (0 : Int))) (IntKind.i64.wrap ((placeR4 n c).snd.snd.fst + List.getD ([[(0 : Int), (0 : Int)], [(1 : Int), (0 : Int)], [(1 : Int), (1 : Int)], [(0 : Int), (1
  : Int)]].getD (IntKind.i64.wrap (IntKind.i64.wrap ((0 : Int) + (1 : Int)) + (1 : Int))).toNat (K.arr (2 : Nat) (K.int IntKind.i64)).dflt) (Int.toNat (1 : Int)) (0 :
  Int)))).fst).set (IntKind.i64.wrap (IntKind.i64.wrap (IntKind.i64.wrap ((0 : Int) + (1 : Int)) + (1 : Int)) + (1 : Int))).toNat (cornerR n (placeR4 n c).fst (IntKind.i64.wrap
  ((placeR4 n c).snd.fst + List.getD ([[(0 : Int), (0 : Int)], [(1 : Int), (0 : Int)], [(1 : Int), (1 : Int)], [(0 : Int), (1 : Int)]].getD (IntKind.i64.wrap (IntKind.i64.wrap
  (IntKind.i64.wrap ((0 : Int) + (1 : Int)) + (1 : Int)) + (1 : Int))).toNat (K.arr (2 : Nat) (K.int IntKind.i64)).dflt) (Int.toNat (0 : Int)) (0 : Int))) (IntKind.i64.wrap
  ((placeR4 n c).snd.snd.fst + List.getD ([[(0 : Int), (0 : Int)], [(1 : Int), (0 : Int)], [(1 : Int), (1 : Int)], [(0 : Int), (1 : Int)]].getD (IntKind.i64.wrap (IntKind.i64.wrap
  (IntKind.i64.wrap ((0 : Int) + (1 : Int)) + (1 : Int)) + (1 : Int))).toNat (K.arr (2 : Nat) (K.int IntKind.i64)).dflt) (Int.toNat (1 : Int)) (0 : Int)))).fst, Bool.true, ()))
theorem Lx_geom_corners (n : Int) (c : Int) (h : II n c) : Fx_geom_corners  n c (fun r => r = cornersR n c) := by
  obtain ⟨hn, hc⟩ := h
  refine ⟨⟨hn, hc⟩, Br.intro (fun e => ?_) fun e => ?_⟩
  · refine ⟨⟨by decide, by decide⟩, by decide, ?_⟩
    have ok : placeOk n c = false := by
      cases q : placeOk n c with
      | false => rfl
      | true => unfold placeR4 at e; rw [if_pos q] at e; cases e
    unfold cornersR; rw [if_neg (by rw [ok]; decide)]
  have ok : placeOk n c = true := by
    cases q : placeOk n c with
    | true => rfl
    | false => unfold placeR4 at e; rw [if_neg (by rw [q]; decide)] at e; cases e
  obtain ⟨h1, h2, h3, h4, h5, h6⟩ := place_facts ok
  obtain ⟨r1, r2, r3, r4, r5, r6⟩ := place_rng ok
  have hp : placeR4 n c = (c / (n * n), c % n, c / n % n, true, ()) := by unfold placeR4; rw [if_pos ok]
  have hf : I64 (c / (n * n)) := ⟨by omega, by omega⟩
  have ho : ∀ x, 0 ≤ x → x ≤ 33 → I64 x := fun x a b => ⟨by omega, by omega⟩
  have w0 : ∀ x, 0 ≤ x → x ≤ 33 → IntKind.i64.wrap (x + 0) = x := fun x a b => by rw [Int.add_zero, wi (ho x a b)]
  have w1 : ∀ x, 0 ≤ x → x ≤ 32 → IntKind.i64.wrap (x + 1) = x + 1 := fun x a b => wi (ho _ (by omega) (by omega))
  have hC : ∀ i j, 0 ≤ i → i ≤ n → 0 ≤ j → j ≤ n → cornerR n (c / (n * n)) i j = (cornerQ n (c / (n * n)) i j, true, ()) := by
    intro i j a1 a2 a3 a4
    unfold cornerR
    rw [if_pos]
    unfold cornerOk
    rw [goodC_iff.2 ⟨h1, h2⟩, decide_eq_true (by omega), decide_eq_true (by omega), decide_eq_true (by omega), decide_eq_true (by omega), decide_eq_true (by omega), decide_eq_true (by omega)]
    rfl
  have a0 := w0 (c % n) (by omega) (by omega)
  have a1 := w1 (c % n) (by omega) (by omega)
  have b0 := w0 (c / n % n) (by omega) (by omega)
  have b1 := w1 (c / n % n) (by omega) (by omega)
  have A0 : I64 (IntKind.i64.wrap (c % n + 0)) := by rw [a0]; exact ho _ (by omega) (by omega)
  have A1 : I64 (IntKind.i64.wrap (c % n + 1)) := by rw [a1]; exact ho _ (by omega) (by omega)
  have B0 : I64 (IntKind.i64.wrap (c / n % n + 0)) := by rw [b0]; exact ho _ (by omega) (by omega)
  have B1 : I64 (IntKind.i64.wrap (c / n % n + 1)) := by rw [b1]; exact ho _ (by omega) (by omega)
  rw [hp]
  refine ⟨by decide, ⟨by decide, by decide⟩, ⟨by decide, by decide, by decide⟩, ⟨by decide, by decide, by decide⟩, ⟨hn, hf, A0, B0⟩, ⟨by decide, by decide, Nat.le_refl 4⟩,
    by decide, ⟨by decide, by decide⟩, ⟨by decide, by decide, by decide⟩, ⟨by decide, by decide, by decide⟩, ⟨hn, hf, A1, B0⟩, ⟨by decide, by decide, Nat.le_refl 4⟩,
    by decide, ⟨by decide, by decide⟩, ⟨by decide, by decide, by decide⟩, ⟨by decide, by decide, by decide⟩, ⟨hn, hf, A1, B1⟩, ⟨by decide, by decide, Nat.le_refl 4⟩,
    by decide, ⟨by decide, by decide⟩, ⟨by decide, by decide, by decide⟩, ⟨by decide, by decide, by decide⟩, ⟨hn, hf, A0, B1⟩, ⟨by decide, by decide, Nat.le_refl 4⟩, rfl, ⟨rfl, rfl⟩, rfl, ?_⟩
  show ([(cornerR n (c / (n * n)) (IntKind.i64.wrap (c % n + 0)) (IntKind.i64.wrap (c / n % n + 0))).1, (cornerR n (c / (n * n)) (IntKind.i64.wrap (c % n + 1)) (IntKind.i64.wrap (c / n % n + 0))).1, (cornerR n (c / (n * n)) (IntKind.i64.wrap (c % n + 1)) (IntKind.i64.wrap (c / n % n + 1))).1, (cornerR n (c / (n * n)) (IntKind.i64.wrap (c % n + 0)) (IntKind.i64.wrap (c / n % n + 1))).1], true, ()) = _
  rw [a0, a1, b0, b1, hC _ _ (by omega) (by omega) (by omega) (by omega), hC _ _ (by omega) (by omega) (by omega) (by omega), hC _ _ (by omega) (by omega) (by omega) (by omega), hC _ _ (by omega) (by omega) (by omega) (by omega)]
  unfold cornersR; rw [if_pos ok]
def Fx_geom_Area := fun (n c : Int) (post : Int × Unit → Prop) => ∃ (h : II n c), ∃ (h : (List.replicate (4 : Nat) ((K.flt Go.FloatKind.f64).pair ((K.flt Go.FloatKind.f64).pair
  (K.flt Go.FloatKind.f64))).dflt).length = (4 : Nat) ∧ (cornersR n c).fst.length = (4 : Nat)), Br (!(cornersR n c).snd.fst) (post ((0 : Int), ())) (∃ (h : (0 : Int) ≤ (2 : Int) ∧
  (2 : Int) < (↑(4 : Nat) : Int) ∧ (4 : Nat) ≤ (cornersR n c).fst.length), ∃ (h : (0 : Int) ≤ (0 : Int) ∧ (0 : Int) < (↑(4 : Nat) : Int) ∧ (4 : Nat) ≤ (cornersR n c).fst.length), ∃
  (h : WV2 ((cornersR n c).fst.getD (Int.toNat (2 : Int)) ((K.flt Go.FloatKind.f64).pair ((K.flt Go.FloatKind.f64).pair (K.flt Go.FloatKind.f64))).dflt) ((cornersR n c).fst.getD
  (Int.toNat (0 : Int)) ((K.flt Go.FloatKind.f64).pair ((K.flt Go.FloatKind.f64).pair (K.flt Go.FloatKind.f64))).dflt)), ∃ (h : (0 : Int) ≤ (3 : Int) ∧ (3 : Int) < (↑(4 : Nat) :
  Int) ∧ (4 : Nat) ≤ (cornersR n c).fst.length), ∃ (h : (0 : Int) ≤ (1 : Int) ∧ (1 : Int) < (↑(4 : Nat) : Int) ∧ (4 : Nat) ≤ (cornersR n c).fst.length), ∃ (h : WV2 ((cornersR n
  c).fst.getD (Int.toNat (3 : Int)) ((K.flt Go.FloatKind.f64).pair ((K.flt Go.FloatKind.f64).pair (K.flt Go.FloatKind.f64))).dflt) ((cornersR n c).fst.getD (Int.toNat (1 : Int))
  ((K.flt Go.FloatKind.f64).pair ((K.flt Go.FloatKind.f64).pair (K.flt Go.FloatKind.f64))).dflt)), ∃ (h : True), ∃ (h : WV (crossR (minusR ((cornersR n c).fst.getD (Int.toNat (2 :
  Int)) ((K.flt Go.FloatKind.f64).pair ((K.flt Go.FloatKind.f64).pair (K.flt Go.FloatKind.f64))).dflt) ((cornersR n c).fst.getD (Int.toNat (0 : Int)) ((K.flt Go.FloatKind.f64).pair
  ((K.flt Go.FloatKind.f64).pair (K.flt Go.FloatKind.f64))).dflt)).fst (minusR ((cornersR n c).fst.getD (Int.toNat (3 : Int)) ((K.flt Go.FloatKind.f64).pair ((K.flt
  Go.FloatKind.f64).pair (K.flt Go.FloatKind.f64))).dflt) ((cornersR n c).fst.getD (Int.toNat (1 : Int)) ((K.flt Go.FloatKind.f64).pair ((K.flt Go.FloatKind.f64).pair (K.flt
  Go.FloatKind.f64))).dflt)).fst).fst), ∀ (a : Nat), FRes Go.FloatKind.f64 (Go.FloatKind.f64.format.mul (lengthR (crossR (minusR ((cornersR n c).fst.getD (Int.toNat (2 : Int))
  ((K.flt Go.FloatKind.f64).pair ((K.flt Go.FloatKind.f64).pair (K.flt Go.FloatKind.f64))).dflt) ((cornersR n c).fst.getD (Int.toNat (0 : Int)) ((K.flt Go.FloatKind.f64).pair
  ((K.flt Go.FloatKind.f64).pair (K.flt Go.FloatKind.f64))).dflt)).fst (minusR ((cornersR n c).fst.getD (Int.toNat (3 : Int)) ((K.flt Go.FloatKind.f64).pair ((K.flt
  Go.FloatKind.f64).pair (K.flt Go.FloatKind.f64))).dflt) ((cornersR n c).fst.getD (Int.toNat (1 : Int)) ((K.flt Go.FloatKind.f64).pair ((K.flt Go.FloatKind.f64).pair (K.flt
  Go.FloatKind.f64))).dflt)).fst).fst).fst (4602678819172646912 : Nat)) a → ∀ (a_1 : Nat), FRes Go.FloatKind.f64 (Go.FloatKind.f64.format.mul a (4742290407621132288 : Nat)) a_1 → ∃
  (h : W64 a_1), post (imax (roundR a_1).fst (1 : Int), ()))
theorem Lx_geom_Area (n : Int) (c : Int) (h : II n c) : Fx_geom_Area  n c (fun r => r = areaR n c) := by
  have g0 : ∀ i : Nat, WV ((cornersR n c).fst.getD i ((K.flt Go.FloatKind.f64).pair ((K.flt Go.FloatKind.f64).pair (K.flt Go.FloatKind.f64))).dflt) := corners_w n c
  have hl := corners_len n c
  refine ⟨h, ⟨by decide, hl⟩, ?_⟩
  rw [hl]
  refine Br.intro (fun e => ?_) fun e => ?_
  · rw [corners_ok] at e
    exact congrArg r1 (by unfold areaI; rw [if_neg (by intro q; rw [q] at e; cases e)])
  rw [corners_ok] at e
  have ok : placeOk n c = true := by simpa using e
  refine ⟨⟨by decide, by decide, Nat.le_refl 4⟩, ⟨by decide, by decide, Nat.le_refl 4⟩, ⟨g0 2, g0 0⟩, ⟨by decide, by decide, Nat.le_refl 4⟩, ⟨by decide, by decide, Nat.le_refl 4⟩, ⟨g0 3, g0 1⟩, trivial, crossV_w _ _, ?_⟩
  intro x hx y hy
  obtain ⟨x1, x2⟩ := fmul hx
  obtain ⟨y1, y2⟩ := fmul hy
  refine ⟨y2, congrArg r1 ?_⟩
  have hs : cornersR n c = ([cornerC n c 0 0, cornerC n c 1 0, cornerC n c 1 1, cornerC n c 0 1], true, ()) := by
    unfold cornersR; rw [if_pos ok]; unfold cornerC; rw [Int.add_zero, Int.add_zero]
  have hq : [cornerC n c 0 0, cornerC n c 1 0, cornerC n c 1 1, cornerC n c 0 1] = (cornersR n c).1 := by rw [hs]
  have hx1 : quietF x = mulQ (spanQ n c) halfR := by
    rw [x1]
    exact congrArg (fun z => mulQ z 4602678819172646912) (span_l (z := (0, 0, 0)) hq.symm)
  have hy1 : quietF y = mulQ (mulQ (spanQ n c) halfR) unitArea := by
    rw [y1]
    have u : quietF x = quietF (mulQ (spanQ n c) halfR) := by rw [hx1, mulQ_q]
    exact mulQ_congr u rfl
  show imax (roundI y).1 1 = areaI n c
  unfold areaI
  rw [if_pos ok, round_quiet y2, hy1]
end Go.Lift

/- Own work. -/
set_option linter.unusedVariables false
set_option linter.unusedSimpArgs false
namespace Go.Lift
def Fx_vec_canon := fun (a b c : Nat) (post : (Nat × Nat × Nat) × Unit → Prop) => ∃ (h : True), ∃ (h : True), ∃ (h : True), post (((canonR a).fst, (canonR b).fst, (canonR c).fst),
  ())
theorem Lx_vec_canon (a : Nat) (b : Nat) (c : Nat) : Fx_vec_canon  a b c (fun r => r = canonVR a b c) := by
  exact ⟨trivial, trivial, trivial, rfl⟩
def Fx_ref07_made := fun (a b c : Nat) (post : (Nat × Nat × Nat) × Unit → Prop) => ∃ (h : W64 a), ∃ (h : W64 b), ∃ (h : W64 c), post (((canonR a).fst, (canonR b).fst, (canonR
  c).fst), ())
theorem Lx_ref07_made (a : Nat) (b : Nat) (c : Nat) (h : W3 a b c) : Fx_ref07_made  a b c (fun r => r = canonVR a b c) := by
  obtain ⟨ha, hb, hc⟩ := h
  exact ⟨ha, hb, hc, rfl⟩
def Fx_vec_Minus := fun (a b : Nat × Nat × Nat) (post : (Nat × Nat × Nat) × Unit → Prop) => ∀ (a_1 : Nat), FRes Go.FloatKind.f64 (Go.FloatKind.f64.format.sub a.fst b.fst) a_1 → ∀
  (a_2 : Nat), FRes Go.FloatKind.f64 (Go.FloatKind.f64.format.sub a.snd.fst b.snd.fst) a_2 → ∀ (a_3 : Nat), FRes Go.FloatKind.f64 (Go.FloatKind.f64.format.sub a.snd.snd b.snd.snd)
  a_3 → ∃ (h : True), post (((canonVR a_1 a_2 a_3).fst.fst, (canonVR a_1 a_2 a_3).fst.snd.fst, (canonVR a_1 a_2 a_3).fst.snd.snd), ())
theorem Lx_vec_Minus (a : Nat × Nat × Nat) (b : Nat × Nat × Nat) (h : WV2 a b) : Fx_vec_Minus  a b (fun r => r = minusR a b) := by
  intro x hx y hy z hz
  exact ⟨trivial, congrArg r1 (canonV_congr (fsub hx).1 (fsub hy).1 (fsub hz).1)⟩
def Fx_ref07_Minus := fun (a b : Nat × Nat × Nat) (post : (Nat × Nat × Nat) × Unit → Prop) => ∀ (a_1 : Nat), FRes Go.FloatKind.f64 (Go.FloatKind.f64.format.sub a.fst b.fst) a_1 → ∀
  (a_2 : Nat), FRes Go.FloatKind.f64 (Go.FloatKind.f64.format.sub a.snd.fst b.snd.fst) a_2 → ∀ (a_3 : Nat), FRes Go.FloatKind.f64 (Go.FloatKind.f64.format.sub a.snd.snd b.snd.snd)
  a_3 → ∃ (h : W3 a_1 a_2 a_3), post (((canonVR a_1 a_2 a_3).fst.fst, (canonVR a_1 a_2 a_3).fst.snd.fst, (canonVR a_1 a_2 a_3).fst.snd.snd), ())
theorem Lx_ref07_Minus (a : Nat × Nat × Nat) (b : Nat × Nat × Nat) (h : WV2 a b) : Fx_ref07_Minus  a b (fun r => r = minusR a b) := by
  intro x hx y hy z hz
  exact ⟨⟨(fsub hx).2, (fsub hy).2, (fsub hz).2⟩, congrArg r1 (canonV_congr (fsub hx).1 (fsub hy).1 (fsub hz).1)⟩
def Fx_ref07_less := fun (a b c d : Nat) (post : Nat × Unit → Prop) => ∀ (a_1 : Nat), FRes Go.FloatKind.f64 (Go.FloatKind.f64.format.mul a b) a_1 → ∀ (a : Nat), FRes
  Go.FloatKind.f64 (Go.FloatKind.f64.format.mul c d) a → ∀ (a_2 : Nat), FRes Go.FloatKind.f64 (Go.FloatKind.f64.format.sub a_1 a) a_2 → post (a_2, ())
theorem Lx_ref07_less (a : Nat) (b : Nat) (c : Nat) (d : Nat) : Fx_ref07_less  a b c d (fun r => lessP a b c d r) := by
  intro x hx y hy z hz
  exact ⟨less_eq (fmul hx).1 (fmul hy).1 (fsub hz).1, (fsub hz).2⟩
def Fx_vec_Cross := fun (a b : Nat × Nat × Nat) (post : (Nat × Nat × Nat) × Unit → Prop) => ∀ (a_1 : Nat), FRes Go.FloatKind.f64 (Go.FloatKind.f64.format.mul a.snd.fst b.snd.snd)
  a_1 → ∀ (a_2 : Nat), FRes Go.FloatKind.f64 (Go.FloatKind.f64.format.mul a.snd.snd b.snd.fst) a_2 → ∀ (a_3 : Nat), FRes Go.FloatKind.f64 (Go.FloatKind.f64.format.sub a_1 a_2) a_3 →
  ∀ (a_4 : Nat), FRes Go.FloatKind.f64 (Go.FloatKind.f64.format.mul a.snd.snd b.fst) a_4 → ∀ (a_5 : Nat), FRes Go.FloatKind.f64 (Go.FloatKind.f64.format.mul a.fst b.snd.snd) a_5 → ∀
  (a_6 : Nat), FRes Go.FloatKind.f64 (Go.FloatKind.f64.format.sub a_4 a_5) a_6 → ∀ (a_7 : Nat), FRes Go.FloatKind.f64 (Go.FloatKind.f64.format.mul a.fst b.snd.fst) a_7 → ∀ (a_8 :
  Nat), FRes Go.FloatKind.f64 (Go.FloatKind.f64.format.mul a.snd.fst b.fst) a_8 → ∀ (a : Nat), FRes Go.FloatKind.f64 (Go.FloatKind.f64.format.sub a_7 a_8) a → ∃ (h : True), post
  (((canonVR a_3 a_6 a).fst.fst, (canonVR a_3 a_6 a).fst.snd.fst, (canonVR a_3 a_6 a).fst.snd.snd), ())
theorem Lx_vec_Cross (a : Nat × Nat × Nat) (b : Nat × Nat × Nat) : Fx_vec_Cross  a b (fun r => r = crossR a b) := by
  intro x1 h1 x2 h2 x3 h3 x4 h4 x5 h5 x6 h6 x7 h7 x8 h8 x9 h9
  exact ⟨trivial, congrArg r1 (canonV_congr (less_eq (fmul h1).1 (fmul h2).1 (fsub h3).1) (less_eq (fmul h4).1 (fmul h5).1 (fsub h6).1) (less_eq (fmul h7).1 (fmul h8).1 (fsub h9).1))⟩
def Fx_ref07_Cross := fun (a b : Nat × Nat × Nat) (post : (Nat × Nat × Nat) × Unit → Prop) => ∃ (h : True), ∀ (a_1 : Nat × Unit), lessP a.snd.fst b.snd.snd a.snd.snd b.snd.fst a_1 →
  ∃ (h : True), ∀ (a_2 : Nat × Unit), lessP a.snd.snd b.fst a.fst b.snd.snd a_2 → ∃ (h : True), ∀ (a_3 : Nat × Unit), lessP a.fst b.snd.fst a.snd.fst b.fst a_3 → ∃ (h : W3 a_1.fst
  a_2.fst a_3.fst), post (((canonVR a_1.fst a_2.fst a_3.fst).fst.fst, (canonVR a_1.fst a_2.fst a_3.fst).fst.snd.fst, (canonVR a_1.fst a_2.fst a_3.fst).fst.snd.snd), ())
theorem Lx_ref07_Cross (a : Nat × Nat × Nat) (b : Nat × Nat × Nat) : Fx_ref07_Cross  a b (fun r => r = crossR a b) := by
  exact ⟨trivial, fun x hx => ⟨trivial, fun y hy => ⟨trivial, fun z hz => ⟨⟨hx.2, hy.2, hz.2⟩, congrArg r1 (canonV_congr hx.1 hy.1 hz.1)⟩⟩⟩⟩
def Fx_math_Sqrt := fun (a : Nat) (post : Nat × Unit → Prop) => ∃ (h : True), ∀ (a_1 : Nat × Unit), sqrtP a a_1 → post (a_1.fst, ())
theorem Lx_math_Sqrt (a : Nat) : Fx_math_Sqrt  a (fun r => sqrtP a r) := by
  exact ⟨trivial, fun x hx => hx⟩
def Fx_raw_Sqrt := fun (a : Nat) (post : Nat × Unit → Prop) => ∃ (h : True), ∀ (a_1 : Nat × Unit), sqrtP a a_1 → post (a_1.fst, ())
theorem Lx_raw_Sqrt (a : Nat) : Fx_raw_Sqrt  a (fun r => sqrtP a r) := by
  exact ⟨trivial, fun x hx => hx⟩
def Fx_vec_Length := fun (a : Nat × Nat × Nat) (post : Nat × Unit → Prop) => ∀ (a_1 : Nat), FRes Go.FloatKind.f64 (Go.FloatKind.f64.format.mul a.fst a.fst) a_1 → ∀ (a_2 : Nat), FRes
  Go.FloatKind.f64 (Go.FloatKind.f64.format.mul a.snd.fst a.snd.fst) a_2 → ∀ (a_3 : Nat), FRes Go.FloatKind.f64 (Go.FloatKind.f64.format.mul a.snd.snd a.snd.snd) a_3 → ∃ (h : W3 a_1
  a_2 a_3), ∃ (h : True), ∀ (a : Nat × Unit), sqrtP (threeR a_1 a_2 a_3).fst a → ∃ (h : True), post ((canonR a.fst).fst, ())
theorem Lx_vec_Length (a : Nat × Nat × Nat) (h : WV a) : Fx_vec_Length  a (fun r => r = lengthR a) := by
  intro x hx y hy z hz
  exact ⟨⟨(fmul hx).2, (fmul hy).2, (fmul hz).2⟩, trivial, fun w hw => ⟨trivial, congrArg r1 (length_eq (fmul hx).1 (fmul hy).1 (fmul hz).1 hw.1)⟩⟩
def Fx_ref07_Length := fun (a : Nat × Nat × Nat) (post : Nat × Unit → Prop) => ∀ (a_1 : Nat), FRes Go.FloatKind.f64 (Go.FloatKind.f64.format.mul a.fst a.fst) a_1 → ∀ (a_2 : Nat),
  FRes Go.FloatKind.f64 (Go.FloatKind.f64.format.mul a.snd.fst a.snd.fst) a_2 → ∀ (a_3 : Nat), FRes Go.FloatKind.f64 (Go.FloatKind.f64.format.mul a.snd.snd a.snd.snd) a_3 → ∃ (h :
  W3 a_1 a_2 a_3), ∃ (h : True), ∀ (a : Nat × Unit), sqrtP (threeR a_1 a_2 a_3).fst a → ∃ (h : W64 a.fst), post ((canonR a.fst).fst, ())
theorem Lx_ref07_Length (a : Nat × Nat × Nat) (h : WV a) : Fx_ref07_Length  a (fun r => r = lengthR a) := by
  intro x hx y hy z hz
  exact ⟨⟨(fmul hx).2, (fmul hy).2, (fmul hz).2⟩, trivial, fun w hw => ⟨hw.2, congrArg r1 (length_eq (fmul hx).1 (fmul hy).1 (fmul hz).1 hw.1)⟩⟩
def Fx_vec_Gap := fun (a b : Nat × Nat × Nat) (post : Nat × Unit → Prop) => ∃ (h : WV2 (a.fst, a.snd.fst, a.snd.snd) (b.fst, b.snd.fst, b.snd.snd)), ∃ (h : WV (minusR (a.fst,
  a.snd.fst, a.snd.snd) (b.fst, b.snd.fst, b.snd.snd)).fst), post ((lengthR (minusR (a.fst, a.snd.fst, a.snd.snd) (b.fst, b.snd.fst, b.snd.snd)).fst).fst, ())
theorem Lx_vec_Gap (a : Nat × Nat × Nat) (b : Nat × Nat × Nat) (h : WV2 a b) : Fx_vec_Gap  a b (fun r => r = gapR a b) := by
  exact ⟨h, minusV_w _ _, rfl⟩
def Fx_vec_Unit := fun (a : Nat × Nat × Nat) (post : (Nat × Nat × Nat) × Unit → Prop) => ∃ (h : WV (a.fst, a.snd.fst, a.snd.snd)), ∀ (a_1 : Bool), a_1 = fcmp Go.BinOp.gtr
  (Go.FloatKind.f64.format.order (lengthR (a.fst, a.snd.fst, a.snd.snd)).fst (0 : Nat)) → Br (!a_1) (post (((0 : Nat), (0 : Nat), (0 : Nat)), ())) (∃ (h : WI (lengthR (a.fst,
  a.snd.fst, a.snd.snd)).fst (1 : Int)), ∀ (a_2 : Bool), a_2 = (infSR (lengthR (a.fst, a.snd.fst, a.snd.snd)).fst (1 : Int)).fst → Br a_2 (post (((0 : Nat), (0 : Nat), (0 : Nat)),
  ())) (∀ (a_3 : Nat), FRes Go.FloatKind.f64 (Go.FloatKind.f64.format.div a.fst (lengthR (a.fst, a.snd.fst, a.snd.snd)).fst) a_3 → ∀ (a_4 : Nat), FRes Go.FloatKind.f64
  (Go.FloatKind.f64.format.div a.snd.fst (lengthR (a.fst, a.snd.fst, a.snd.snd)).fst) a_4 → ∀ (a_5 : Nat), FRes Go.FloatKind.f64 (Go.FloatKind.f64.format.div a.snd.snd (lengthR
  (a.fst, a.snd.fst, a.snd.snd)).fst) a_5 → ∃ (h : True), post (((canonVR a_3 a_4 a_5).fst.fst, (canonVR a_3 a_4 a_5).fst.snd.fst, (canonVR a_3 a_4 a_5).fst.snd.snd), ())))
theorem Lx_vec_Unit (a : Nat × Nat × Nat) (h : WV a) : Fx_vec_Unit  a (fun r => r = unitR a) := by
  refine ⟨h, ?_⟩
  have hs := lengthQ_sgn a
  have hg := gt_zero hs
  rintro _ rfl
  refine Br.intro (fun e => ?_) fun e => ⟨lengthQ_w a, ?_⟩
  · have e : (!fcmp .gtr (Ieee.double.order (lengthQ a) 0)) = true := e
    rw [hg] at e
    refine (congrArg r1 (unit_zero ?_)).symm
    rw [class12]
    rintro ⟨h1, h2⟩
    have : isN (lengthQ a) = false := by unfold isN; simp; omega
    rw [this] at e
    simp [h1] at e
  · have e : (!fcmp .gtr (Ieee.double.order (lengthQ a) 0)) = false := e
    rw [hg] at e
    have e : isN (lengthQ a) = false ∧ rungOf (lengthQ a) ≠ 0 := by simpa using e
    have hi : infS (lengthQ a) 1 = decide (rungOf (lengthQ a) = infR) := by unfold infS; rw [if_neg (by decide), if_neg (by decide), hs]; simp
    rintro _ rfl
    refine Br.intro (fun f => ?_) fun f => ?_
    · have f : infS (lengthQ a) 1 = true := f
      rw [hi] at f
      have f := of_decide_eq_true f
      exact (congrArg r1 (unit_zero (by rw [class12]; rintro ⟨h1, h2⟩; omega))).symm
    · have f : infS (lengthQ a) 1 = false := f
      rw [hi] at f
      have f := of_decide_eq_false f
      have g : rungOf (lengthQ a) ≤ infR := by have := e.1; unfold isN at this; simpa using this
      intro x hx y hy z hz
      exact ⟨trivial, congrArg r1 (unit_some ((class12 _).2 ⟨e.2, by omega⟩) (fdiv hx).1 (fdiv hy).1 (fdiv hz).1)⟩
def Fx_ref07_Unit := fun (a : Nat × Nat × Nat) (post : (Nat × Nat × Nat) × Unit → Prop) => ∃ (h : WV (a.fst, a.snd.fst, a.snd.snd)), ∃ (h : W64 (lengthR (a.fst, a.snd.fst,
  a.snd.snd)).fst), ∀ (a_1 : Bool), a_1 = ((classR (lengthR (a.fst, a.snd.fst, a.snd.snd)).fst).fst == (0 : Int)) → Br a_1 (∃ (h : W3 (0 : Nat) (0 : Nat) (0 : Nat)), post (((canonVR
  (0 : Nat) (0 : Nat) (0 : Nat)).fst.fst, (canonVR (0 : Nat) (0 : Nat) (0 : Nat)).fst.snd.fst, (canonVR (0 : Nat) (0 : Nat) (0 : Nat)).fst.snd.snd), ())) (∀ (a_2 : Bool), a_2 =
  ((classR (lengthR (a.fst, a.snd.fst, a.snd.snd)).fst).fst == (3 : Int)) → Br a_2 (∃ (h : W3 (0 : Nat) (0 : Nat) (0 : Nat)), post (((canonVR (0 : Nat) (0 : Nat) (0 : Nat)).fst.fst,
  (canonVR (0 : Nat) (0 : Nat) (0 : Nat)).fst.snd.fst, (canonVR (0 : Nat) (0 : Nat) (0 : Nat)).fst.snd.snd), ())) (∀ (a_3 : Bool), a_3 = ((classR (lengthR (a.fst, a.snd.fst,
  a.snd.snd)).fst).fst == (4 : Int)) → Br a_3 (∃ (h : W3 (0 : Nat) (0 : Nat) (0 : Nat)), post (((canonVR (0 : Nat) (0 : Nat) (0 : Nat)).fst.fst, (canonVR (0 : Nat) (0 : Nat) (0 :
  Nat)).fst.snd.fst, (canonVR (0 : Nat) (0 : Nat) (0 : Nat)).fst.snd.snd), ())) (∀ (a_4 : Nat), FRes Go.FloatKind.f64 (Go.FloatKind.f64.format.div a.fst (lengthR (a.fst, a.snd.fst,
  a.snd.snd)).fst) a_4 → ∀ (a_5 : Nat), FRes Go.FloatKind.f64 (Go.FloatKind.f64.format.div a.snd.fst (lengthR (a.fst, a.snd.fst, a.snd.snd)).fst) a_5 → ∀ (a_6 : Nat), FRes
  Go.FloatKind.f64 (Go.FloatKind.f64.format.div a.snd.snd (lengthR (a.fst, a.snd.fst, a.snd.snd)).fst) a_6 → ∃ (h : W3 a_4 a_5 a_6), post (((canonVR a_4 a_5 a_6).fst.fst, (canonVR
  a_4 a_5 a_6).fst.snd.fst, (canonVR a_4 a_5 a_6).fst.snd.snd), ()))))
theorem Lx_ref07_Unit (a : Nat × Nat × Nat) (h : WV a) : Fx_ref07_Unit  a (fun r => r = unitR a) := by
  refine ⟨h, lengthQ_w a, ?_⟩
  have z : canonV 0 0 0 = (0, 0, 0) := by decide
  have w0 : W64 0 := by unfold W64; decide
  have out : ∀ k : Int, k ≠ 1 → k ≠ 2 → (classF (lengthQ a) == k) = true → ∃ h : W3 0 0 0, (((canonVR 0 0 0).fst.fst, (canonVR 0 0 0).fst.snd.fst, (canonVR 0 0 0).fst.snd.snd), ()) = unitR a := by
    intro k k1 k2 e
    have e : classF (lengthQ a) = k := by simpa using e
    exact ⟨⟨w0, w0, w0⟩, congrArg r1 (z.trans (unit_zero (by rw [e]; omega)).symm)⟩
  rintro _ rfl
  refine Br.intro (fun e => out 0 (by decide) (by decide) e) fun e => ?_
  have e : (classF (lengthQ a) == 0) = false := e
  rintro _ rfl
  refine Br.intro (fun f => out 3 (by decide) (by decide) f) fun f => ?_
  have f : (classF (lengthQ a) == 3) = false := f
  rintro _ rfl
  refine Br.intro (fun g => out 4 (by decide) (by decide) g) fun g => ?_
  have g : (classF (lengthQ a) == 4) = false := g
  have c : classF (lengthQ a) = 1 ∨ classF (lengthQ a) = 2 := by
    have e : classF (lengthQ a) ≠ 0 := by simpa using e
    have f : classF (lengthQ a) ≠ 3 := by simpa using f
    have g : classF (lengthQ a) ≠ 4 := by simpa using g
    have := class_le (lengthQ a)
    omega
  intro x hx y hy z hz
  exact ⟨⟨(fdiv hx).2, (fdiv hy).2, (fdiv hz).2⟩, congrArg r1 (unit_some c (fdiv hx).1 (fdiv hy).1 (fdiv hz).1)⟩
end Go.Lift

/- Own work. -/
set_option linter.unusedVariables false
set_option linter.unusedSimpArgs false
namespace Go.Lift
def Fx_sum_row := fun (a : List Nat) (post : Nat × Unit → Prop) => ∀ (a_1 : Bool), a_1 = ((↑a.length : Int) == (0 : Int)) → Br a_1 (post ((0 : Nat), ())) (∃ (h : (0 : Int) ≤ (0 :
  Int) ∧ (0 : Int) < (↑a.length : Int)), ∃ (h : (0 : Int) ≤ (1 : Int) ∧ (1 : Int) ≤ (↑a.length : Int) ∧ (↑a.length : Int) ≤ (↑a.length : Int)), HIs [] [] ∧ ∃ (I : Nat × Int × Unit →
  Unit → Prop), ∃ (μ : Nat × Int × Unit → Unit → Nat), I (a.getD (Int.toNat (0 : Int)) (0 : Nat), (0 : Int), ()) () ∧ ∀ (x : Nat × Int × Unit) (y : Unit), I x y → ∀ (a_2 : Bool),
  a_2 = decide (x.snd.fst < (↑(List.take ((↑a.length : Int) - (1 : Int)).toNat (List.drop (Int.toNat (1 : Int)) a)).length : Int)) → Br a_2 (∃ (h : (0 : Int) ≤ x.snd.fst ∧ x.snd.fst
  < (↑(List.take ((↑a.length : Int) - (1 : Int)).toNat (List.drop (Int.toNat (1 : Int)) a)).length : Int)), ∀ (a_3 : Nat), FRes Go.FloatKind.f64 (Go.FloatKind.f64.format.add x.fst
  ((List.take ((↑a.length : Int) - (1 : Int)).toNat (List.drop (Int.toNat (1 : Int)) a)).getD x.snd.fst.toNat (0 : Nat))) a_3 → HIs [] [] ∧ I (a_3, IntKind.i64.wrap (x.snd.fst + (1
  : Int)), ()) () ∧ μ (a_3, IntKind.i64.wrap (x.snd.fst + (1 : Int)), ()) () < μ x y) (∃ (h : True), post ((quietR x.fst).fst, ())))
theorem Lx_sum_row (a : List Nat) (h : WL a) (w : KS.wf [.slice (.flt .f64)] (a, ())) : Fx_sum_row  a (fun r => r = rowR a) := by
  have hl : a.length ≤ maxN := w.1.1
  unfold maxN at hl
  rintro _ rfl
  refine Br.intro (fun e => ?_) fun e => ?_
  · have e : a.length = 0 := by have := eq_of_beq e; omega
    have : a = [] := List.eq_nil_of_length_eq_zero e
    subst this; rfl
  · have e : 0 < a.length := by
      rcases Nat.eq_zero_or_pos a.length with z | z
      · rw [z] at e; cases e
      · exact z
    refine ⟨⟨by omega, by omega⟩, ⟨by omega, by omega, by omega⟩, rfl, fun x _ => ∃ i : Nat, x.2.1 = i ∧ i + 1 ≤ a.length ∧ W64 x.1 ∧ quietF x.1 = rowQ (a.take (i + 1)), fun x _ => a.length - x.2.1.toNat, ⟨0, rfl, by omega, WL_getD h 0, (rowQ_one e).symm⟩, ?_⟩
    have ht : List.take ((a.length : Int) - 1).toNat (List.drop (Int.toNat 1) a) = a.drop 1 := by
      show List.take ((a.length : Int) - 1).toNat (List.drop 1 a) = a.drop 1
      apply List.take_of_length_le; rw [List.length_drop]; omega
    rw [ht]
    have hd : ∀ i, (a.drop 1).getD i 0 = a.getD (i + 1) 0 := by
      intro i; rw [List.getD_eq_getElem?_getD, List.getD_eq_getElem?_getD, List.getElem?_drop, Nat.add_comm]
    rintro ⟨acc, _, ⟨⟩⟩ _ ⟨i, hi, hil, hw, hq⟩
    dsimp only at hi hw hq
    subst hi
    dsimp only
    rintro _ rfl
    refine Br.intro (fun f => ?_) fun f => ?_
    · have f : i + 1 < a.length := by have := of_decide_eq_true f; rw [List.length_drop] at this; omega
      refine ⟨⟨by omega, by rw [List.length_drop]; omega⟩, fun r hr => ?_⟩
      rw [Int.toNat_natCast, hd] at hr
      obtain ⟨q1, q2⟩ := fadd hr
      refine ⟨rfl, ⟨i + 1, ?_, by omega, q2, ?_⟩, ?_⟩
      · rw [wi ⟨by omega, by omega⟩]; omega
      · show quietF r = _
        rw [q1, rowQ_at f (by omega), addQ_congr (x' := rowQ (a.take (i + 1))) (by rw [hq, rowQ_q]) rfl]
      · rw [wi ⟨by omega, by omega⟩]; omega
    · have f : a.length ≤ i + 1 := by have := of_decide_eq_false f; rw [List.length_drop] at this; omega
      refine ⟨trivial, congrArg r1 ?_⟩
      show quietF acc = _
      rw [hq, List.take_of_length_le f]
def Fx_ref05_Three := fun (a b c : Nat) (post : Nat × Unit → Prop) => ∃ (h : W2 b a), ∀ (a_1 : Bool), a_1 = (aheadR b a).fst → Br a_1 (∃ (h : W2 c a), ∀ (a_2 : Bool), a_2 = (aheadR
  c a).fst → Br a_2 (∃ (h : W2 c b), ∀ (a_3 : Bool), a_3 = (aheadR c b).fst → Br a_3 (∀ (a_4 : Nat), FRes Go.FloatKind.f64 (Go.FloatKind.f64.format.add c b) a_4 → ∀ (a_5 : Nat),
  FRes Go.FloatKind.f64 (Go.FloatKind.f64.format.add a_4 a) a_5 → ∃ (h : W64 a_5), post ((quietR a_5).fst, ())) (∀ (a_4 : Nat), FRes Go.FloatKind.f64 (Go.FloatKind.f64.format.add b
  c) a_4 → ∀ (a_5 : Nat), FRes Go.FloatKind.f64 (Go.FloatKind.f64.format.add a_4 a) a_5 → ∃ (h : W64 a_5), post ((quietR a_5).fst, ()))) (∃ (h : W2 a b), ∀ (a_3 : Bool), a_3 =
  (aheadR a b).fst → Br a_3 (∀ (a_4 : Nat), FRes Go.FloatKind.f64 (Go.FloatKind.f64.format.add a b) a_4 → ∀ (a : Nat), FRes Go.FloatKind.f64 (Go.FloatKind.f64.format.add a_4 c) a →
  ∃ (h : W64 a), post ((quietR a).fst, ())) (∀ (a_4 : Nat), FRes Go.FloatKind.f64 (Go.FloatKind.f64.format.add b a) a_4 → ∀ (a : Nat), FRes Go.FloatKind.f64
  (Go.FloatKind.f64.format.add a_4 c) a → ∃ (h : W64 a), post ((quietR a).fst, ())))) (∃ (h : W2 c b), ∀ (a_2 : Bool), a_2 = (aheadR c b).fst → Br a_2 (∃ (h : W2 c a), ∀ (a_3 :
  Bool), a_3 = (aheadR c a).fst → Br a_3 (∀ (a_4 : Nat), FRes Go.FloatKind.f64 (Go.FloatKind.f64.format.add c a) a_4 → ∀ (a : Nat), FRes Go.FloatKind.f64
  (Go.FloatKind.f64.format.add a_4 b) a → ∃ (h : W64 a), post ((quietR a).fst, ())) (∀ (a_4 : Nat), FRes Go.FloatKind.f64 (Go.FloatKind.f64.format.add a c) a_4 → ∀ (a : Nat), FRes
  Go.FloatKind.f64 (Go.FloatKind.f64.format.add a_4 b) a → ∃ (h : W64 a), post ((quietR a).fst, ()))) (∃ (h : W2 b a), ∀ (a_3 : Bool), a_3 = (aheadR b a).fst → Br a_3 (∀ (a_4 :
  Nat), FRes Go.FloatKind.f64 (Go.FloatKind.f64.format.add b a) a_4 → ∀ (a : Nat), FRes Go.FloatKind.f64 (Go.FloatKind.f64.format.add a_4 c) a → ∃ (h : W64 a), post ((quietR a).fst,
  ())) (∀ (a_4 : Nat), FRes Go.FloatKind.f64 (Go.FloatKind.f64.format.add a b) a_4 → ∀ (a : Nat), FRes Go.FloatKind.f64 (Go.FloatKind.f64.format.add a_4 c) a → ∃ (h : W64 a), post
  ((quietR a).fst, ()))))
theorem Lx_ref05_Three (a : Nat) (b : Nat) (c : Nat) (h : W3 a b c) : Fx_ref05_Three  a b c (fun r => r = threeR a b c) := by
  obtain ⟨ha, hb, hc⟩ := h
  have leaf : ∀ x y z, sort3 a b c = [x, y, z] → ∀ s, FRes Go.FloatKind.f64 (Go.FloatKind.f64.format.add x y) s → ∀ t, FRes Go.FloatKind.f64 (Go.FloatKind.f64.format.add s z) t → ∃ h : W64 t, ((quietR t).fst, ()) = threeR a b c := by
    intro x y z e s hs t ht
    obtain ⟨q1, w1⟩ := fadd hs
    obtain ⟨q2, w2⟩ := fadd ht
    refine ⟨w2, congrArg r1 ?_⟩
    show quietF t = rowQ (sort3 a b c)
    rw [e]; exact rowQ3 q1 q2
  refine ⟨⟨hb, ha⟩, ?_⟩
  rintro _ rfl
  refine Br.intro (fun e => ⟨⟨hc, ha⟩, ?_⟩) fun e => ⟨⟨hc, hb⟩, ?_⟩
  · have e : ltM b a = true := e
    rintro _ rfl
    refine Br.intro (fun f => ⟨⟨hc, hb⟩, ?_⟩) fun f => ⟨⟨ha, hb⟩, ?_⟩
    · have f : ltM c a = true := f
      rintro _ rfl
      refine Br.intro (fun g => ?_) fun g => ?_
      · have g : ltM c b = true := g
        exact leaf _ _ _ (by unfold sort3; rw [e, f, g]; rfl)
      · have g : ltM c b = false := g
        exact leaf _ _ _ (by unfold sort3; rw [e, f, g]; rfl)
    · have f : ltM c a = false := f
      rintro _ rfl
      refine Br.intro (fun g => ?_) fun g => ?_
      · have g : ltM a b = true := g
        rw [ltM_asymm e] at g; cases g
      · exact leaf _ _ _ (by unfold sort3; rw [e, f]; rfl)
  · have e : ltM b a = false := e
    rintro _ rfl
    refine Br.intro (fun f => ⟨⟨hc, ha⟩, ?_⟩) fun f => ⟨⟨hb, ha⟩, ?_⟩
    · have f : ltM c b = true := f
      rintro _ rfl
      refine Br.intro (fun g => ?_) fun g => ?_
      · have g : ltM c a = true := g
        exact leaf _ _ _ (by unfold sort3; rw [e, f, g]; rfl)
      · have g : ltM c a = false := g
        exact leaf _ _ _ (by unfold sort3; rw [e, f, g]; rfl)
    · have f : ltM c b = false := f
      rintro _ rfl
      refine Br.intro (fun g => ?_) fun g => ?_
      · have g : ltM b a = true := g
        rw [e] at g; cases g
      · exact leaf _ _ _ (by unfold sort3; rw [e, f]; rfl)
def Fx_sum_Three := fun (a b c : Nat) (post : Nat × Unit → Prop) => ∃ (h : (List.replicate (3 : Nat) (0 : Nat)).length = (3 : Nat) ∧ (3 : Nat) = (3 : Nat)), ∃ (h : (0 : Int) ≤ (0 :
  Int) ∧ (0 : Int) ≤ (3 : Int) ∧ (3 : Int) ≤ (3 : Int) ∧ (3 : Nat) = (3 : Nat)), ∃ (h : IsThree (3 : Int)), ∃ (h : (0 : Int) ≤ (1 : Int) ∧ (1 : Int) < (3 : Int)), ∃ (h : (0 : Int) ≤
  (0 : Int) ∧ (0 : Int) < (3 : Int)), ∃ (h : W2 b a), Br (decide ((cmpMR b a).fst < (0 : Int))) (∃ (h : (0 : Int) ≤ (0 : Int) ∧ (0 : Int) < (3 : Int)), ∃ (h : (0 : Int) ≤ (1 : Int)
  ∧ (1 : Int) < (3 : Int)), ∃ (h : (0 : Int) ≤ (1 : Int) ∧ (1 : Int) < (3 : Int)), ∃ (h : (0 : Int) ≤ (0 : Int) ∧ (0 : Int) < (3 : Int)), ∃ (h : (0 : Int) ≤ (2 : Int) ∧ (2 : Int) <
  (3 : Int)), ∃ (h : (0 : Int) ≤ (1 : Int) ∧ (1 : Int) < (3 : Int)), ∃ (h : W2 c a), Br (decide ((cmpMR c a).fst < (0 : Int))) (∃ (h : (0 : Int) ≤ (1 : Int) ∧ (1 : Int) < (3 :
  Int)), ∃ (h : (0 : Int) ≤ (2 : Int) ∧ (2 : Int) < (3 : Int)), ∃ (h : (0 : Int) ≤ (2 : Int) ∧ (2 : Int) < (3 : Int)), ∃ (h : (0 : Int) ≤ (1 : Int) ∧ (1 : Int) < (3 : Int)), ∃ (h :
  (0 : Int) ≤ (1 : Int) ∧ (1 : Int) < (3 : Int)), ∃ (h : (0 : Int) ≤ (0 : Int) ∧ (0 : Int) < (3 : Int)), ∃ (h : W2 c b), Br (decide ((cmpMR c b).fst < (0 : Int))) (∃ (h : (0 : Int)
  ≤ (0 : Int) ∧ (0 : Int) < (3 : Int)), ∃ (h : (0 : Int) ≤ (1 : Int) ∧ (1 : Int) < (3 : Int)), ∃ (h : (0 : Int) ≤ (1 : Int) ∧ (1 : Int) < (3 : Int)), ∃ (h : (0 : Int) ≤ (0 : Int) ∧
  (0 : Int) < (3 : Int)), ∃ (h : (0 : Int) ≤ (0 : Int) ∧ (0 : Int) ≤ (3 : Int) ∧ (3 : Int) ≤ (3 : Int) ∧ (3 : Nat) = [c, b, a].length), ∃ (h : WL [c, b, a]), post ((rowR [c, b,
  a]).fst, ())) (∃ (h : (0 : Int) ≤ (0 : Int) ∧ (0 : Int) ≤ (3 : Int) ∧ (3 : Int) ≤ (3 : Int) ∧ (3 : Nat) = [b, c, a].length), ∃ (h : WL [b, c, a]), post ((rowR [b, c, a]).fst,
  ()))) (∃ (h : (0 : Int) ≤ (0 : Int) ∧ (0 : Int) ≤ (3 : Int) ∧ (3 : Int) ≤ (3 : Int) ∧ (3 : Nat) = [b, a, c].length), ∃ (h : WL [b, a, c]), post ((rowR [b, a, c]).fst, ()))) (∃ (h
  : (0 : Int) ≤ (2 : Int) ∧ (2 : Int) < (3 : Int)), ∃ (h : (0 : Int) ≤ (1 : Int) ∧ (1 : Int) < (3 : Int)), ∃ (h : W2 c b), Br (decide ((cmpMR c b).fst < (0 : Int))) (∃ (h : (0 :
  Int) ≤ (1 : Int) ∧ (1 : Int) < (3 : Int)), ∃ (h : (0 : Int) ≤ (2 : Int) ∧ (2 : Int) < (3 : Int)), ∃ (h : (0 : Int) ≤ (2 : Int) ∧ (2 : Int) < (3 : Int)), ∃ (h : (0 : Int) ≤ (1 :
  Int) ∧ (1 : Int) < (3 : Int)), ∃ (h : (0 : Int) ≤ (1 : Int) ∧ (1 : Int) < (3 : Int)), ∃ (h : (0 : Int) ≤ (0 : Int) ∧ (0 : Int) < (3 : Int)), ∃ (h : W2 c a), Br (decide ((cmpMR c
  a).fst < (0 : Int))) (∃ (h : (0 : Int) ≤ (0 : Int) ∧ (0 : Int) < (3 : Int)), ∃ (h : (0 : Int) ≤ (1 : Int) ∧ (1 : Int) < (3 : Int)), ∃ (h : (0 : Int) ≤ (1 : Int) ∧ (1 : Int) < (3 :
  Int)), ∃ (h : (0 : Int) ≤ (0 : Int) ∧ (0 : Int) < (3 : Int)), ∃ (h : (0 : Int) ≤ (0 : Int) ∧ (0 : Int) ≤ (3 : Int) ∧ (3 : Int) ≤ (3 : Int) ∧ (3 : Nat) = [c, a, b].length), ∃ (h :
  WL [c, a, b]), post ((rowR [c, a, b]).fst, ())) (∃ (h : (0 : Int) ≤ (0 : Int) ∧ (0 : Int) ≤ (3 : Int) ∧ (3 : Int) ≤ (3 : Int) ∧ (3 : Nat) = [a, c, b].length), ∃ (h : WL [a, c,
  b]), post ((rowR [a, c, b]).fst, ()))) (∃ (h : (0 : Int) ≤ (0 : Int) ∧ (0 : Int) ≤ (3 : Int) ∧ (3 : Int) ≤ (3 : Int) ∧ (3 : Nat) = (3 : Nat)), ∃ (h : WL [a, b, c]), post ((rowR
  [a, b, c]).fst, ())))
theorem Lx_sum_Three (a : Nat) (b : Nat) (c : Nat) (h : W3 a b c) : Fx_sum_Three  a b c (fun r => r = threeR a b c) := by
  obtain ⟨ha, hb, hc⟩ := h
  have leaf : ∀ l, sort3 a b c = l → ((rowR l).fst, ()) = threeR a b c := by rintro _ rfl; rfl
  refine ⟨⟨rfl, rfl⟩, ⟨by decide, by decide, by decide, rfl⟩, rfl, by decide, by decide, ⟨hb, ha⟩, Br.intro (fun e => ⟨by decide, by decide, by decide, by decide, by decide, by decide, ⟨hc, ha⟩, Br.intro (fun f => ⟨by decide, by decide, by decide, by decide, by decide, by decide, ⟨hc, hb⟩, Br.intro (fun g => ⟨by decide, by decide, by decide, by decide, ⟨by decide, by decide, by decide, rfl⟩, WL3 hc hb ha, leaf _ ?_⟩) fun g => ⟨⟨by decide, by decide, by decide, rfl⟩, WL3 hb hc ha, leaf _ ?_⟩⟩) fun f => ⟨⟨by decide, by decide, by decide, rfl⟩, WL3 hb ha hc, leaf _ ?_⟩⟩) fun e => ⟨by decide, by decide, ⟨hc, hb⟩, Br.intro (fun f => ⟨by decide, by decide, by decide, by decide, by decide, by decide, ⟨hc, ha⟩, Br.intro (fun g => ⟨by decide, by decide, by decide, by decide, ⟨by decide, by decide, by decide, rfl⟩, WL3 hc ha hb, leaf _ ?_⟩) fun g => ⟨⟨by decide, by decide, by decide, rfl⟩, WL3 ha hc hb, leaf _ ?_⟩⟩) fun f => ⟨⟨by decide, by decide, by decide, rfl⟩, WL3 ha hb hc, leaf _ ?_⟩⟩⟩
  · have e : ltM b a = true := e
    have f : ltM c a = true := f
    have g : ltM c b = true := g
    unfold sort3; rw [e, f, g]; rfl
  · have e : ltM b a = true := e
    have f : ltM c a = true := f
    have g : ltM c b = false := g
    unfold sort3; rw [e, f, g]; rfl
  · have e : ltM b a = true := e
    have f : ltM c a = false := f
    unfold sort3; rw [e, f]; rfl
  · have e : ltM b a = false := e
    have f : ltM c b = true := f
    have g : ltM c a = true := g
    unfold sort3; rw [e, f, g]; rfl
  · have e : ltM b a = false := e
    have f : ltM c b = true := f
    have g : ltM c a = false := g
    unfold sort3; rw [e, f, g]; rfl
  · have e : ltM b a = false := e
    have f : ltM c b = false := f
    unfold sort3; rw [e, f]; rfl
end Go.Lift

/- Contracts of functions, of a seat. Own work. -/
set_option linter.unusedVariables false
set_option linter.unusedSimpArgs false
namespace Go.Lift
open Go.Proofs
def Dx_sum_row : Cx := ⟨tabOf Dtab, conOf [(77, Dq_sum_quiet)], DG⟩
theorem Dx_sum_row_ok : CxOk Tryd.prog Dx_sum_row := ⟨tabB_sound Dtab_ok, conOf_sound ⟨Dh_sum_quiet, trivial⟩⟩
theorem Dat_sum_row : FnAt Tryd.prog 70 Tryd.f70.ntmps Tryd.f70.results.toList (Tryd.f70.body.getD .skip) := ⟨Tryd.f70, Tryd.func70, rfl, rfl, by simp, by decide⟩
theorem Deq_sum_row (a : List Nat) (post : Nat × Unit → Prop) : fnEval Dx_sum_row Dhn_sum_row Tryd.f70.ntmps Tryd.f70.results.toList (Tryd.f70.body.getD .skip) [.slice (.flt .f64)] [.snap (.flt .f64)] (a, ()) post = Fx_sum_row  a post := by kernel_rfl
theorem Dh_sum_row : Dq_sum_row.holds Tryd.prog DG 70 :=
  detP Dx_sum_row_ok Dmixed Dhn_sum_row Dat_sum_row (F := fun x post => Fx_sum_row  x.1 post) (fun x post => Deq_sum_row x.1 post) fun x h w => Lx_sum_row  x.1 h w
def Dx_mbits_Len64 : Cx := ⟨tabOf Dtab, fun _ => none, DG⟩
theorem Dx_mbits_Len64_ok : CxOk Tryd.prog Dx_mbits_Len64 := ⟨tabB_sound Dtab_ok, fun f c h => by cases h⟩
theorem Dat_mbits_Len64 : FnAt Tryd.prog 90 Tryd.f90.ntmps Tryd.f90.results.toList (Tryd.f90.body.getD .skip) := ⟨Tryd.f90, Tryd.func90, rfl, rfl, by simp, by decide⟩
theorem Deq_mbits_Len64 (post : Int × Unit → Prop) : fnEval Dx_mbits_Len64 noHn Tryd.f90.ntmps Tryd.f90.results.toList (Tryd.f90.body.getD .skip) [.int .u64] [.snap (.int .i64)] ((3 : Int), ()) post = (∃ (h : (0 : Int) ≤ (3 : Int) ∧ (3 : Int) < (256 : Int)), post ((2 : Int), ())) := by kernel_rfl
theorem Dh_mbits_Len64 : Dq_mbits_Len64.holds Tryd.prog DG 90 := by
  refine det_holds Dx_mbits_Len64_ok Dmixed noHn Dat_mbits_Len64 ?_
  rintro ⟨a, ⟨⟩⟩ h
  have h : a = (3 : Int) := h
  subst h
  exact (Deq_mbits_Len64 _).mpr ⟨by decide, rfl⟩
def Dx_mbits_Len : Cx := ⟨tabOf Dtab, conOf [(90, Dq_mbits_Len64)], DG⟩
theorem Dx_mbits_Len_ok : CxOk Tryd.prog Dx_mbits_Len := ⟨tabB_sound Dtab_ok, conOf_sound ⟨Dh_mbits_Len64, trivial⟩⟩
theorem Dat_mbits_Len : FnAt Tryd.prog 74 Tryd.f74.ntmps Tryd.f74.results.toList (Tryd.f74.body.getD .skip) := ⟨Tryd.f74, Tryd.func74, rfl, rfl, by simp, by decide⟩
theorem Deq_mbits_Len (post : Int × Unit → Prop) : fnEval Dx_mbits_Len noHn Tryd.f74.ntmps Tryd.f74.results.toList (Tryd.f74.body.getD .skip) [.int .u64] [.snap (.int .i64)] ((3 : Int), ()) post = (∃ (h : IsThree 3), post ((2 : Int), ())) := by kernel_rfl
theorem Dh_mbits_Len : Dq_mbits_Len.holds Tryd.prog DG 74 := by
  refine det_holds Dx_mbits_Len_ok Dmixed noHn Dat_mbits_Len ?_
  rintro ⟨a, ⟨⟩⟩ h
  have h : a = (3 : Int) := h
  subst h
  exact (Deq_mbits_Len _).mpr ⟨rfl, rfl⟩
def Dx_sum_Three : Cx := ⟨tabOf Dtab, conOf [(65, Dq_sum_Three_c1), (70, Dq_sum_row), (74, Dq_mbits_Len)], DG⟩
theorem Dx_sum_Three_ok : CxOk Tryd.prog Dx_sum_Three := ⟨tabB_sound Dtab_ok, conOf_sound ⟨Dh_sum_Three_c1, Dh_sum_row, Dh_mbits_Len, trivial⟩⟩
theorem Dat_sum_Three : FnAt Tryd.prog 57 Tryd.f57.ntmps Tryd.f57.results.toList (Tryd.f57.body.getD .skip) := ⟨Tryd.f57, Tryd.func57, rfl, rfl, by simp, by decide⟩
theorem Deq_sum_Three (a : Nat) (b : Nat) (c : Nat) (post : Nat × Unit → Prop) : fnEvalI Dx_sum_Three Dhn_sum_Three (callLvl Dx_sum_Three Dfns_sort3 5) Tryd.f57.ntmps Tryd.f57.results.toList (Tryd.f57.body.getD .skip) [.flt .f64, .flt .f64, .flt .f64] [.snap (.flt .f64)] (a, b, c, ()) post = Fx_sum_Three  a b c post := by kernel_rfl
theorem Dh_sum_Three : Dq_sum_Three.holds Tryd.prog DG 57 :=
  detPI Dx_sum_Three_ok Dmixed Dhn_sum_Three (callLvl_ok Dx_sum_Three_ok Dmixed Dfns_sort3_ok 5) Dat_sum_Three (F := fun x post => Fx_sum_Three  x.1 x.2.1 x.2.2.1 post) (fun x post => Deq_sum_Three x.1 x.2.1 x.2.2.1 post) fun x h _ => Lx_sum_Three  x.1 x.2.1 x.2.2.1 h
end Go.Lift
