/- A part of the proof of TileSeasCard: an own lifter of code into plain terms, and plain laws. -/
import Derived.Laws.Externs
import Derived.Test.YtomopcclgokehaaGreatDoorPtD
set_option linter.unusedVariables false
set_option linter.unusedSimpArgs false
set_option linter.unusedSectionVars false
/- Own work. -/
set_option linter.unusedVariables false
set_option linter.unusedSimpArgs false
namespace Go.Lift
def Fx_tile_root := fun (a : Int) (post : Int × Unit → Prop) => HIs [] [] ∧ ∃ (I : Int × Unit → Unit → Prop), ∃ (μ : Int × Unit → Unit → Nat), I ((1 : Int), ()) () ∧ ∀ (x : Int ×
  Unit) (y : Unit), I x y → ∀ (a_1 : Bool), a_1 = decide (x.fst ≤ (32 : Int)) → Br a_1 (∀ (a_2 : Bool), a_2 = (IntKind.i64.wrap (x.fst * x.fst) == a) → Br a_2 (post (x.fst, ()))
  (HIs [] [] ∧ I (IntKind.i64.wrap (x.fst + (1 : Int)), ()) () ∧ μ (IntKind.i64.wrap (x.fst + (1 : Int)), ()) () < μ x y)) (post ((0 : Int), ()))
theorem Lx_tile_root (a : Int) (h : I64 a) : Fx_tile_root  a (fun r => r = rootR a) := by
  refine ⟨rfl, fun x _ => ∃ k : Nat, x.1 = k ∧ 1 ≤ k ∧ k ≤ 33 ∧ rootI a = rootN a (33 - k) k, fun x _ => 33 - x.1.toNat, ⟨1, rfl, by omega, by omega, rfl⟩, ?_⟩
  rintro ⟨_, ⟨⟩⟩ _ ⟨k, rfl, k1, k2, hk⟩
  dsimp only
  rintro _ rfl
  refine Br.intro (fun e => ?_) fun e => ?_
  · have e := of_decide_eq_true e
    have q : k * k ≤ 32 * 32 := Nat.mul_le_mul (by omega) (by omega)
    have wk : IntKind.i64.wrap ((k : Int) * k) = (k : Int) * k := by
      rw [← Int.natCast_mul]; exact wi ⟨by omega, by omega⟩
    obtain ⟨m, hm⟩ : ∃ m, 33 - k = m + 1 := ⟨32 - k, by omega⟩
    rw [hm, rootN_succ] at hk
    rw [wk]
    rintro _ rfl
    refine Br.intro (fun f => ?_) fun f => ?_
    · have f : (k : Int) * k = a := eq_of_beq f
      rw [if_pos f] at hk
      exact congrArg r1 hk.symm
    · have f : ¬ (k : Int) * k = a := by intro q; rw [q] at f; simp at f
      rw [if_neg f] at hk
      have ws : IntKind.i64.wrap ((k : Int) + 1) = ((k + 1 : Nat) : Int) := wi_succ (n := 34) (by omega) (by omega)
      rw [ws]
      exact ⟨rfl, ⟨k + 1, rfl, by omega, by omega, by rw [hk, show 33 - (k + 1) = m by omega]⟩, by omega⟩
  · have e := of_decide_eq_false e
    refine congrArg r1 ?_
    rw [hk, show 33 - k = 0 by omega]; rfl
def Fx_tile_bounds := fun (a : List Int) (post : Int × Int × Unit → Prop) => ∃ (h : (0 : Int) ≤ (0 : Int) ∧ (0 : Int) < (↑a.length : Int)), ∃ (h : (0 : Int) ≤ (0 : Int) ∧ (0 : Int)
  < (↑a.length : Int)), HIs [] [] ∧ ∃ (I : Int × Int × Int × Unit → Unit → Prop), ∃ (μ : Int × Int × Int × Unit → Unit → Nat), I (a.getD (Int.toNat (0 : Int)) (0 : Int), a.getD
  (Int.toNat (0 : Int)) (0 : Int), (0 : Int), ()) () ∧ ∀ (x : Int × Int × Int × Unit) (y : Unit), I x y → ∀ (a_1 : Bool), a_1 = decide (x.snd.snd.fst < (↑a.length : Int)) → Br a_1
  (∃ (h : (0 : Int) ≤ x.snd.snd.fst ∧ x.snd.snd.fst < (↑a.length : Int)), HIs [] [] ∧ I (imin x.fst (a.getD x.snd.snd.fst.toNat (0 : Int)), imax x.snd.fst (a.getD
  x.snd.snd.fst.toNat (0 : Int)), IntKind.i64.wrap (x.snd.snd.fst + (1 : Int)), ()) () ∧ μ (imin x.fst (a.getD x.snd.snd.fst.toNat (0 : Int)), imax x.snd.fst (a.getD
  x.snd.snd.fst.toNat (0 : Int)), IntKind.i64.wrap (x.snd.snd.fst + (1 : Int)), ()) () < μ x y) (post (x.fst, x.snd.fst, ()))
theorem Lx_tile_bounds (a : List Int) (h : NE a) (w : KS.wf [.slice (.int .u32)] (a, ())) : Fx_tile_bounds  a (fun r => r = endsR a) := by
  have hl : a.length ≤ maxN := w.1.1
  unfold maxN at hl
  have h : 0 < a.length := h
  refine ⟨⟨by omega, by omega⟩, ⟨by omega, by omega⟩, rfl, fun x _ => ∃ i : Nat, x.2.2.1 = i ∧ i ≤ a.length ∧ x.1 = (a.take i).foldl imin (a.getD 0 0) ∧ x.2.1 = (a.take i).foldl imax (a.getD 0 0), fun x _ => a.length - x.2.2.1.toNat, ⟨0, rfl, by omega, rfl, rfl⟩, ?_⟩
  rintro ⟨_, _, _, ⟨⟩⟩ _ ⟨i, rfl, hil, rfl, rfl⟩
  dsimp only
  rintro _ rfl
  refine Br.intro (fun e => ?_) fun e => ?_
  · have e : i < a.length := by have := of_decide_eq_true e; omega
    rw [Int.toNat_natCast, wi_succ e (by omega)]
    exact ⟨⟨by omega, by omega⟩, rfl, ⟨i + 1, rfl, by omega, (foldl_step imin e 0 _).symm, (foldl_step imax e 0 _).symm⟩, by omega⟩
  · have e : ¬ i < a.length := by have := of_decide_eq_false e; omega
    rw [List.take_of_length_le (by omega)]; rfl
def Fx_tile_good := fun (ty25 : Nat) (a : Int × Int × Int × List Int) (post : Bool × Unit → Prop) => HIs [HObj.box Md.rw ty25 [SV.val (Go.Value.int IntKind.i64 a.fst), SV.val
  (Go.Value.int IntKind.u32 a.snd.fst), SV.val (Go.Value.int IntKind.u32 a.snd.snd.fst), SV.data (K.int IntKind.u32).slice a.snd.snd.snd]] [HObj.box Md.rw ty25 [SV.val (Go.Value.int
  IntKind.i64 a.fst), SV.val (Go.Value.int IntKind.u32 a.snd.fst), SV.val (Go.Value.int IntKind.u32 a.snd.snd.fst), SV.data (K.int IntKind.u32).slice a.snd.snd.snd]] ∧ ∃ (I : Int ×
  Unit → Unit → Prop), ∃ (μ : Int × Unit → Unit → Nat), I ((0 : Int), ()) () ∧ ∀ (x : Int × Unit) (y : Unit), I x y → ∀ (a_1 : Bool), a_1 = decide (x.fst < (↑a.snd.snd.snd.length :
  Int)) → Br a_1 (∃ (h : (0 : Int) ≤ x.fst ∧ x.fst < (↑a.snd.snd.snd.length : Int)), ∀ (a_2 : Bool), a_2 = decide (a.snd.snd.snd.getD x.fst.toNat (0 : Int) ≥ (2139095040 : Int)) →
  Br a_2 (post (Bool.false, ())) (HIs [HObj.box Md.rw ty25 [SV.val (Go.Value.int IntKind.i64 a.fst), SV.val (Go.Value.int IntKind.u32 a.snd.fst), SV.val (Go.Value.int IntKind.u32
  a.snd.snd.fst), SV.data (K.int IntKind.u32).slice a.snd.snd.snd]] [HObj.box Md.rw ty25 [SV.val (Go.Value.int IntKind.i64 a.fst), SV.val (Go.Value.int IntKind.u32 a.snd.fst),
  SV.val (Go.Value.int IntKind.u32 a.snd.snd.fst), SV.data (K.int IntKind.u32).slice a.snd.snd.snd]] ∧ I (IntKind.i64.wrap (x.fst + (1 : Int)), ()) () ∧ μ (IntKind.i64.wrap (x.fst +
  (1 : Int)), ()) () < μ x y)) (∃ (h : NE a.snd.snd.snd), ∀ (a_2 : Bool), a_2 = (a.snd.fst == (endsR a.snd.snd.snd).fst) → Br a_2 (∀ (a_3 : Bool), a_3 = (a.snd.snd.fst == (endsR
  a.snd.snd.snd).snd.fst) → post (a_3, ())) (post (Bool.false, ())))
theorem Lx_tile_good (ty0 : Nat) (a : Int × Int × Int × List Int) (h : NET a) (w : KS.wf [kTile] (a, ())) : Fx_tile_good ty0 a (fun r => r = lowR a) := by
  have hl : a.2.2.2.length ≤ maxN := w.1.2.2.2.1
  unfold maxN at hl
  have h : 0 < a.2.2.2.length := h
  have no : (a.2.2.2.all fun x => decide (x < 2139095040)) = false → (false, ()) = lowR a := by
    intro q; refine congrArg r1 ?_; unfold lowT; rw [q]; rfl
  refine ⟨rfl, fun x _ => ∃ i : Nat, x.1 = i ∧ i ≤ a.2.2.2.length ∧ ((a.2.2.2.take i).all fun x => decide (x < 2139095040)) = true, fun x _ => a.2.2.2.length - x.1.toNat, ⟨0, rfl, by omega, rfl⟩, ?_⟩
  rintro ⟨_, ⟨⟩⟩ _ ⟨i, rfl, hil, hi⟩
  dsimp only
  rintro _ rfl
  refine Br.intro (fun e => ?_) fun e => ?_
  · have e : i < a.2.2.2.length := by have := of_decide_eq_true e; omega
    refine ⟨⟨by omega, by omega⟩, ?_⟩
    rw [Int.toNat_natCast, wi_succ e (by omega)]
    rintro _ rfl
    refine Br.intro (fun f => no ?_) fun f => ?_
    · have f := of_decide_eq_true f
      rw [Bool.eq_false_iff]
      intro q
      rw [List.all_eq_true] at q
      have := of_decide_eq_true (q _ (getD_mem e 0))
      omega
    · have f := of_decide_eq_false f
      exact ⟨rfl, ⟨i + 1, rfl, by omega, by rw [all_step _ e 0, hi, decide_eq_true (by omega)]; rfl⟩, by omega⟩
  · have e : ¬ i < a.2.2.2.length := by have := of_decide_eq_false e; omega
    rw [List.take_of_length_le (by omega)] at hi
    have be : ∀ x y : Int, (x == y) = decide (x = y) := fun x y => by by_cases q : x = y <;> simp [q]
    refine ⟨h, ?_⟩
    rintro _ rfl
    refine Br.intro (fun f => ?_) fun f => ?_
    · rintro _ rfl
      refine congrArg r1 ?_
      have f : (a.2.1 == minL a.2.2.2) = true := f
      show (a.2.2.1 == maxL a.2.2.2) = lowT a
      unfold lowT
      rw [be] at f ⊢
      rw [hi, f]; rfl
    · refine congrArg r1 ?_
      have f : (a.2.1 == minL a.2.2.2) = false := f
      rw [be] at f
      unfold lowT
      rw [hi, f]; rfl
def Fx_tile_get := fun (a : List Int) (post : Int × Unit → Prop) => ∃ (h : (0 : Int) ≤ (0 : Int) ∧ (0 : Int) < (↑a.length : Int)), ∃ (h : (0 : Int) ≤ (1 : Int) ∧ (1 : Int) <
  (↑a.length : Int)), ∃ (h : (0 : Int) ≤ (8 : Int)), ∃ (h : (0 : Int) ≤ (2 : Int) ∧ (2 : Int) < (↑a.length : Int)), ∃ (h : (0 : Int) ≤ (16 : Int)), ∃ (h : (0 : Int) ≤ (3 : Int) ∧ (3
  : Int) < (↑a.length : Int)), ∃ (h : (0 : Int) ≤ (24 : Int)), post (Go.bits Go.BinOp.or IntKind.u32 (Go.bits Go.BinOp.or IntKind.u32 (Go.bits Go.BinOp.or IntKind.u32
  (IntKind.u32.wrap (a.getD (Int.toNat (0 : Int)) (0 : Int))) (IntKind.u32.wrap (IntKind.u32.wrap (a.getD (Int.toNat (1 : Int)) (0 : Int)) * (2 : Int) ^ Min.min (Int.toNat (8 :
  Int)) IntKind.u32.bits))) (IntKind.u32.wrap (IntKind.u32.wrap (a.getD (Int.toNat (2 : Int)) (0 : Int)) * (2 : Int) ^ Min.min (Int.toNat (16 : Int)) IntKind.u32.bits)))
  (IntKind.u32.wrap (IntKind.u32.wrap (a.getD (Int.toNat (3 : Int)) (0 : Int)) * (2 : Int) ^ Min.min (Int.toNat (24 : Int)) IntKind.u32.bits)), ())
theorem Lx_tile_get (a : List Int) (h : WNum4 a) : Fx_tile_get  a (fun r => r = num4R a) := by
  obtain ⟨hb, hl⟩ := h
  refine ⟨⟨by omega, by omega⟩, ⟨by omega, by omega⟩, by decide, ⟨by omega, by omega⟩, by decide, ⟨by omega, by omega⟩, by decide, congrArg r1 ?_⟩
  exact num4_or (hb _ (getD_mem (show 0 < a.length by omega) 0)) (hb _ (getD_mem (show 1 < a.length by omega) 0)) (hb _ (getD_mem (show 2 < a.length by omega) 0)) (hb _ (getD_mem (show 3 < a.length by omega) 0))
def Fx_tile_Encode := fun (ty25 ty5 : Nat) (a : Int × Int × Int × List Int) (post : List Int × Int × Unit → Prop) => ∃ (h : I64 (↑a.snd.snd.snd.length : Int)), ∀ (a_1 : Bool), a_1 =
  decide (a.fst < (0 : Int)) → Br a_1 (post ([], (1 : Int), ())) (∀ (a_2 : Bool), a_2 = decide (a.fst ≥ (6 : Int)) → Br a_2 (post ([], (1 : Int), ())) (∀ (a_3 : Bool), a_3 = ((rootR
  (↑a.snd.snd.snd.length : Int)).fst == (0 : Int)) → Br a_3 (post ([], (1 : Int), ())) (∃ (h : NET (a.fst, a.snd.fst, a.snd.snd.fst, a.snd.snd.snd)), ∀ (a_4 : Bool), a_4 = (lowR
  (a.fst, a.snd.fst, a.snd.snd.fst, a.snd.snd.snd)).fst → Br (!a_4) (post ([], (1 : Int), ())) (∃ (h : (0 : Int) ≤ IntKind.i64.wrap ((14 : Int) + IntKind.i64.wrap ((4 : Int) *
  (↑a.snd.snd.snd.length : Int))) ∧ IntKind.i64.wrap ((14 : Int) + IntKind.i64.wrap ((4 : Int) * (↑a.snd.snd.snd.length : Int))) ≤ IntKind.i64.wrap ((14 : Int) + IntKind.i64.wrap
  ((4 : Int) * (↑a.snd.snd.snd.length : Int))) ∧ IntKind.i64.wrap ((14 : Int) + IntKind.i64.wrap ((4 : Int) * (↑a.snd.snd.snd.length : Int))) * (↑(1 : Nat) : Int) ≤ (281474976710656
  : Int)), ∃ (h : (strBytes { data := #[(84 : UInt8), (73 : UInt8), (76 : UInt8), (69 : UInt8)] }).length ≤ (IntKind.i64.wrap ((14 : Int) + IntKind.i64.wrap ((4 : Int) *
  (↑a.snd.snd.snd.length : Int)))).toNat), ∃ (h : (0 : Int) ≤ (4 : Int) ∧ (4 : Int) < (↑(IntKind.i64.wrap ((14 : Int) + IntKind.i64.wrap ((4 : Int) * (↑a.snd.snd.snd.length :
  Int)))).toNat : Int)), ∃ (h : (0 : Int) ≤ (5 : Int) ∧ (5 : Int) < (↑(IntKind.i64.wrap ((14 : Int) + IntKind.i64.wrap ((4 : Int) * (↑a.snd.snd.snd.length : Int)))).toNat : Int)), ∃
  (h : (0 : Int) ≤ (6 : Int) ∧ (6 : Int) ≤ (↑(IntKind.i64.wrap ((14 : Int) + IntKind.i64.wrap ((4 : Int) * (↑a.snd.snd.snd.length : Int)))).toNat : Int) ∧ (↑(IntKind.i64.wrap ((14 :
  Int) + IntKind.i64.wrap ((4 : Int) * (↑a.snd.snd.snd.length : Int)))).toNat : Int) ≤ (↑(IntKind.i64.wrap ((14 : Int) + IntKind.i64.wrap ((4 : Int) * (↑a.snd.snd.snd.length :
  Int)))).toNat : Int)), ∃ (h : (0 : Int) ≤ (8 : Int)), ∃ (h : (0 : Int) ≤ (16 : Int)), ∃ (h : (0 : Int) ≤ (24 : Int)), ∃ (h : (0 : Int) ≤ (0 : Int) ∧ (0 : Int) <
  (↑((↑(IntKind.i64.wrap ((14 : Int) + IntKind.i64.wrap ((4 : Int) * (↑a.snd.snd.snd.length : Int)))).toNat : Int) - (6 : Int)).toNat : Int)), ∃ (h : (0 : Int) ≤ (1 : Int) ∧ (1 :
  Int) < (↑((↑(IntKind.i64.wrap ((14 : Int) + IntKind.i64.wrap ((4 : Int) * (↑a.snd.snd.snd.length : Int)))).toNat : Int) - (6 : Int)).toNat : Int)), ∃ (h : (0 : Int) ≤ (2 : Int) ∧
  (2 : Int) < (↑((↑(IntKind.i64.wrap ((14 : Int) + IntKind.i64.wrap ((4 : Int) * (↑a.snd.snd.snd.length : Int)))).toNat : Int) - (6 : Int)).toNat : Int)), ∃ (h : (0 : Int) ≤ (3 :
  Int) ∧ (3 : Int) < (↑((↑(IntKind.i64.wrap ((14 : Int) + IntKind.i64.wrap ((4 : Int) * (↑a.snd.snd.snd.length : Int)))).toNat : Int) - (6 : Int)).toNat : Int)), ∃ (h : (0 : Int) ≤
  (10 : Int) ∧ (10 : Int) ≤ (↑(IntKind.i64.wrap ((14 : Int) + IntKind.i64.wrap ((4 : Int) * (↑a.snd.snd.snd.length : Int)))).toNat : Int) ∧ (↑(IntKind.i64.wrap ((14 : Int) +
  IntKind.i64.wrap ((4 : Int) * (↑a.snd.snd.snd.length : Int)))).toNat : Int) ≤ (↑(IntKind.i64.wrap ((14 : Int) + IntKind.i64.wrap ((4 : Int) * (↑a.snd.snd.snd.length :
  Int)))).toNat : Int)), ∃ (h : (0 : Int) ≤ (8 : Int)), ∃ (h : (0 : Int) ≤ (16 : Int)), ∃ (h : (0 : Int) ≤ (24 : Int)), ∃ (h : (0 : Int) ≤ (0 : Int) ∧ (0 : Int) <
  (↑((↑(IntKind.i64.wrap ((14 : Int) + IntKind.i64.wrap ((4 : Int) * (↑a.snd.snd.snd.length : Int)))).toNat : Int) - (10 : Int)).toNat : Int)), ∃ (h : (0 : Int) ≤ (1 : Int) ∧ (1 :
  Int) < (↑((↑(IntKind.i64.wrap ((14 : Int) + IntKind.i64.wrap ((4 : Int) * (↑a.snd.snd.snd.length : Int)))).toNat : Int) - (10 : Int)).toNat : Int)), ∃ (h : (0 : Int) ≤ (2 : Int) ∧
  (2 : Int) < (↑((↑(IntKind.i64.wrap ((14 : Int) + IntKind.i64.wrap ((4 : Int) * (↑a.snd.snd.snd.length : Int)))).toNat : Int) - (10 : Int)).toNat : Int)), ∃ (h : (0 : Int) ≤ (3 :
  Int) ∧ (3 : Int) < (↑((↑(IntKind.i64.wrap ((14 : Int) + IntKind.i64.wrap ((4 : Int) * (↑a.snd.snd.snd.length : Int)))).toNat : Int) - (10 : Int)).toNat : Int)), HIs [HObj.box
  Md.rw ty25 [SV.val (Go.Value.int IntKind.i64 a.fst), SV.val (Go.Value.int IntKind.u32 a.snd.fst), SV.val (Go.Value.int IntKind.u32 a.snd.snd.fst), SV.data (K.int
  IntKind.u32).slice a.snd.snd.snd], HObj.row Md.rw ty5 (K.int IntKind.u8) ((((((((((([] ++ strBytes { data := #[(84 : UInt8), (73 : UInt8), (76 : UInt8), (69 : UInt8)] } ++
  List.drop ((0 : Nat) + (strBytes { data := #[(84 : UInt8), (73 : UInt8), (76 : UInt8), (69 : UInt8)] }).length) (List.replicate (IntKind.i64.wrap ((14 : Int) + IntKind.i64.wrap
  ((4 : Int) * (↑a.snd.snd.snd.length : Int)))).toNat (0 : Int))).set ((0 : Nat) + Int.toNat (4 : Int)) (IntKind.u8.wrap a.fst)).set ((0 : Nat) + Int.toNat (5 : Int))
  (IntKind.u8.wrap (rootR (↑a.snd.snd.snd.length : Int)).fst)).set ((0 : Nat) + Int.toNat (6 : Int) + Int.toNat (0 : Int)) (IntKind.u8.wrap a.snd.fst)).set ((0 : Nat) + Int.toNat (6
  : Int) + Int.toNat (1 : Int)) (IntKind.u8.wrap (a.snd.fst.fdiv ((2 : Int) ^ Min.min (Int.toNat (8 : Int)) IntKind.u32.bits)))).set ((0 : Nat) + Int.toNat (6 : Int) + Int.toNat (2
  : Int)) (IntKind.u8.wrap (a.snd.fst.fdiv ((2 : Int) ^ Min.min (Int.toNat (16 : Int)) IntKind.u32.bits)))).set ((0 : Nat) + Int.toNat (6 : Int) + Int.toNat (3 : Int))
  (IntKind.u8.wrap (a.snd.fst.fdiv ((2 : Int) ^ Min.min (Int.toNat (24 : Int)) IntKind.u32.bits)))).set ((0 : Nat) + Int.toNat (10 : Int) + Int.toNat (0 : Int)) (IntKind.u8.wrap
  a.snd.snd.fst)).set ((0 : Nat) + Int.toNat (10 : Int) + Int.toNat (1 : Int)) (IntKind.u8.wrap (a.snd.snd.fst.fdiv ((2 : Int) ^ Min.min (Int.toNat (8 : Int))
  IntKind.u32.bits)))).set ((0 : Nat) + Int.toNat (10 : Int) + Int.toNat (2 : Int)) (IntKind.u8.wrap (a.snd.snd.fst.fdiv ((2 : Int) ^ Min.min (Int.toNat (16 : Int))
  IntKind.u32.bits)))).set ((0 : Nat) + Int.toNat (10 : Int) + Int.toNat (3 : Int)) (IntKind.u8.wrap (a.snd.snd.fst.fdiv ((2 : Int) ^ Min.min (Int.toNat (24 : Int))
  IntKind.u32.bits))))] [HObj.box Md.rw ty25 [SV.val (Go.Value.int IntKind.i64 a.fst), SV.val (Go.Value.int IntKind.u32 a.snd.fst), SV.val (Go.Value.int IntKind.u32 a.snd.snd.fst),
  SV.data (K.int IntKind.u32).slice a.snd.snd.snd], HObj.row Md.rw ty5 (K.int IntKind.u8) ((((((((((([] ++ strBytes { data := #[(84 : UInt8), (73 : UInt8), (76 : UInt8), (69 :
  UInt8)] } ++ List.drop ((0 : Nat) + (strBytes { data := #[(84 : UInt8), (73 : UInt8), (76 : UInt8), (69 : UInt8)] }).length) (List.replicate (IntKind.i64.wrap ((14 : Int) +
  IntKind.i64.wrap ((4 : Int) * (↑a.snd.snd.snd.length : Int)))).toNat (0 : Int))).set ((0 : Nat) + Int.toNat (4 : Int)) (IntKind.u8.wrap a.fst)).set ((0 : Nat) + Int.toNat (5 :
  Int)) (IntKind.u8.wrap (rootR (↑a.snd.snd.snd.length : Int)).fst)).set ((0 : Nat) + Int.toNat (6 : Int) + Int.toNat (0 : Int)) (IntKind.u8.wrap a.snd.fst)).set ((0 : Nat) +
  Int.toNat (6 : Int) + Int.toNat (1 : Int)) (IntKind.u8.wrap (a.snd.fst.fdiv ((2 : Int) ^ Min.min (Int.toNat (8 : Int)) IntKind.u32.bits)))).set ((0 : Nat) + Int.toNat (6 : Int) +
  Int.toNat (2 : Int)) (IntKind.u8.wrap (a.snd.fst.fdiv ((2 : Int) ^ Min.min (Int.toNat (16 : Int)) IntKind.u32.bits)))).set ((0 : Nat) + Int.toNat (6 : Int) + Int.toNat (3 : Int))
  (IntKind.u8.wrap (a.snd.fst.fdiv ((2 : Int) ^ Min.min (Int.toNat (24 : Int)) IntKind.u32.bits)))).set ((0 : Nat) + Int.toNat (10 : Int) + Int.toNat (0 : Int)) (IntKind.u8.wrap
  a.snd.snd.fst)).set ((0 : Nat) + Int.toNat (10 : Int) + Int.toNat (1 : Int)) (IntKind.u8.wrap (a.snd.snd.fst.fdiv ((2 : Int) ^ Min.min (Int.toNat (8 : Int))
  IntKind.u32.bits)))).set ((0 : Nat) + Int.toNat (10 : Int) + Int.toNat (2 : Int)) (IntKind.u8.wrap (a.snd.snd.fst.fdiv ((2 : Int) ^ Min.min (Int.toNat (16 : Int))
  IntKind.u32.bits)))).set ((0 : Nat) + Int.toNat (10 : Int) + Int.toNat (3 : Int)) (IntKind.u8.wrap (a.snd.snd.fst.fdiv ((2 : Int) ^ Min.min (Int.toNat (24 : Int))
  IntKind.u32.bits))))] ∧ ∃ (I : Int × Int × Unit → List Int × Unit → Prop), ∃ (μ : Int × Int × Unit → List Int × Unit → Nat), I ((0 : Int), (0 : Int), ()) ((((((((((([] ++ strBytes
  { data := #[(84 : UInt8), (73 : UInt8), (76 : UInt8), (69 : UInt8)] } ++ List.drop ((0 : Nat) + (strBytes { data := #[(84 : UInt8), (73 : UInt8), (76 : UInt8), (69 : UInt8)]
  }).length) (List.replicate (IntKind.i64.wrap ((14 : Int) + IntKind.i64.wrap ((4 : Int) * (↑a.snd.snd.snd.length : Int)))).toNat (0 : Int))).set ((0 : Nat) + Int.toNat (4 : Int))
  (IntKind.u8.wrap a.fst)).set ((0 : Nat) + Int.toNat (5 : Int)) (IntKind.u8.wrap (rootR (↑a.snd.snd.snd.length : Int)).fst)).set ((0 : Nat) + Int.toNat (6 : Int) + Int.toNat (0 :
  Int)) (IntKind.u8.wrap a.snd.fst)).set ((0 : Nat) + Int.toNat (6 : Int) + Int.toNat (1 : Int)) (IntKind.u8.wrap (a.snd.fst.fdiv ((2 : Int) ^ Min.min (Int.toNat (8 : Int))
  IntKind.u32.bits)))).set ((0 : Nat) + Int.toNat (6 : Int) + Int.toNat (2 : Int)) (IntKind.u8.wrap (a.snd.fst.fdiv ((2 : Int) ^ Min.min (Int.toNat (16 : Int))
  IntKind.u32.bits)))).set ((0 : Nat) + Int.toNat (6 : Int) + Int.toNat (3 : Int)) (IntKind.u8.wrap (a.snd.fst.fdiv ((2 : Int) ^ Min.min (Int.toNat (24 : Int))
  IntKind.u32.bits)))).set ((0 : Nat) + Int.toNat (10 : Int) + Int.toNat (0 : Int)) (IntKind.u8.wrap a.snd.snd.fst)).set ((0 : Nat) + Int.toNat (10 : Int) + Int.toNat (1 : Int))
  (IntKind.u8.wrap (a.snd.snd.fst.fdiv ((2 : Int) ^ Min.min (Int.toNat (8 : Int)) IntKind.u32.bits)))).set ((0 : Nat) + Int.toNat (10 : Int) + Int.toNat (2 : Int)) (IntKind.u8.wrap
  (a.snd.snd.fst.fdiv ((2 : Int) ^ Min.min (Int.toNat (16 : Int)) IntKind.u32.bits)))).set ((0 : Nat) + Int.toNat (10 : Int) + Int.toNat (3 : Int)) (IntKind.u8.wrap
  (a.snd.snd.fst.fdiv ((2 : Int) ^ Min.min (Int.toNat (24 : Int)) IntKind.u32.bits))), ()) ∧ ∀ (x : Int × Int × Unit) (y : List Int × Unit), I x y → ∀ (a_5 : Bool), a_5 = decide
  (x.snd.fst < (↑a.snd.snd.snd.length : Int)) → Br a_5 (∃ (h : (0 : Int) ≤ x.snd.fst ∧ x.snd.fst < (↑a.snd.snd.snd.length : Int)), ∃ (h : (0 : Int) ≤ IntKind.i64.wrap ((14 : Int) +
  IntKind.i64.wrap ((4 : Int) * x.snd.fst)) ∧ IntKind.i64.wrap ((14 : Int) + IntKind.i64.wrap ((4 : Int) * x.snd.fst)) ≤ (↑(IntKind.i64.wrap ((14 : Int) + IntKind.i64.wrap ((4 :
  Int) * (↑a.snd.snd.snd.length : Int)))).toNat : Int) ∧ (↑(IntKind.i64.wrap ((14 : Int) + IntKind.i64.wrap ((4 : Int) * (↑a.snd.snd.snd.length : Int)))).toNat : Int) ≤
  (↑(IntKind.i64.wrap ((14 : Int) + IntKind.i64.wrap ((4 : Int) * (↑a.snd.snd.snd.length : Int)))).toNat : Int)), ∃ (h : (0 : Int) ≤ (8 : Int)), ∃ (h : (0 : Int) ≤ (16 : Int)), ∃ (h
  : (0 : Int) ≤ (24 : Int)), ∃ (h : (0 : Int) ≤ (0 : Int) ∧ (0 : Int) < (↑((↑(IntKind.i64.wrap ((14 : Int) + IntKind.i64.wrap ((4 : Int) * (↑a.snd.snd.snd.length : Int)))).toNat :
  Int) - IntKind.i64.wrap ((14 : Int) + IntKind.i64.wrap ((4 : Int) * x.snd.fst))).toNat : Int)), ∃ (h : (0 : Int) ≤ (1 : Int) ∧ (1 : Int) < (↑((↑(IntKind.i64.wrap ((14 : Int) +
  IntKind.i64.wrap ((4 : Int) * (↑a.snd.snd.snd.length : Int)))).toNat : Int) - IntKind.i64.wrap ((14 : Int) + IntKind.i64.wrap ((4 : Int) * x.snd.fst))).toNat : Int)), ∃ (h : (0 :
  Int) ≤ (2 : Int) ∧ (2 : Int) < (↑((↑(IntKind.i64.wrap ((14 : Int) + IntKind.i64.wrap ((4 : Int) * (↑a.snd.snd.snd.length : Int)))).toNat : Int) - IntKind.i64.wrap ((14 : Int) +
  IntKind.i64.wrap ((4 : Int) * x.snd.fst))).toNat : Int)), ∃ (h : (0 : Int) ≤ (3 : Int) ∧ (3 : Int) < (↑((↑(IntKind.i64.wrap ((14 : Int) + IntKind.i64.wrap ((4 : Int) *
  (↑a.snd.snd.snd.length : Int)))).toNat : Int) - IntKind.i64.wrap ((14 : Int) + IntKind.i64.wrap ((4 : Int) * x.snd.fst))).toNat : Int)), HIs [HObj.box Md.rw ty25 [SV.val
  (Go.Value.int IntKind.i64 a.fst), SV.val (Go.Value.int IntKind.u32 a.snd.fst), SV.val (Go.Value.int IntKind.u32 a.snd.snd.fst), SV.data (K.int IntKind.u32).slice a.snd.snd.snd],
  HObj.row Md.rw ty5 (K.int IntKind.u8) ((((y.fst.set ((0 : Nat) + (IntKind.i64.wrap ((14 : Int) + IntKind.i64.wrap ((4 : Int) * x.snd.fst))).toNat + Int.toNat (0 : Int))
  (IntKind.u8.wrap (Go.bits Go.BinOp.xor IntKind.u32 (a.snd.snd.snd.getD x.snd.fst.toNat (0 : Int)) x.fst))).set ((0 : Nat) + (IntKind.i64.wrap ((14 : Int) + IntKind.i64.wrap ((4 :
  Int) * x.snd.fst))).toNat + Int.toNat (1 : Int)) (IntKind.u8.wrap ((Go.bits Go.BinOp.xor IntKind.u32 (a.snd.snd.snd.getD x.snd.fst.toNat (0 : Int)) x.fst).fdiv ((2 : Int) ^
  Min.min (Int.toNat (8 : Int)) IntKind.u32.bits)))).set ((0 : Nat) + (IntKind.i64.wrap ((14 : Int) + IntKind.i64.wrap ((4 : Int) * x.snd.fst))).toNat + Int.toNat (2 : Int))
  (IntKind.u8.wrap ((Go.bits Go.BinOp.xor IntKind.u32 (a.snd.snd.snd.getD x.snd.fst.toNat (0 : Int)) x.fst).fdiv ((2 : Int) ^ Min.min (Int.toNat (16 : Int)) IntKind.u32.bits)))).set
  ((0 : Nat) + (IntKind.i64.wrap ((14 : Int) + IntKind.i64.wrap ((4 : Int) * x.snd.fst))).toNat + Int.toNat (3 : Int)) (IntKind.u8.wrap ((Go.bits Go.BinOp.xor IntKind.u32
  (a.snd.snd.snd.getD x.snd.fst.toNat (0 : Int)) x.fst).fdiv ((2 : Int) ^ Min.min (Int.toNat (24 : Int)) IntKind.u32.bits))))] [HObj.box Md.rw ty25 [SV.val (Go.Value.int IntKind.i64
  a.fst), SV.val (Go.Value.int IntKind.u32 a.snd.fst), SV.val (Go.Value.int IntKind.u32 a.snd.snd.fst), SV.data (K.int IntKind.u32).slice a.snd.snd.snd], HObj.row Md.rw ty5 (K.int
  IntKind.u8) ((((y.fst.set ((0 : Nat) + (IntKind.i64.wrap ((14 : Int) + IntKind.i64.wrap ((4 : Int) * x.snd.fst))).toNat + Int.toNat (0 : Int)) (IntKind.u8.wrap (Go.bits
  Go.BinOp.xor IntKind.u32 (a.snd.snd.snd.getD x.snd.fst.toNat (0 : Int)) x.fst))).set ((0 : Nat) + (IntKind.i64.wrap ((14 : Int) + IntKind.i64.wrap ((4 : Int) * x.snd.fst))).toNat
  + Int.toNat (1 : Int)) (IntKind.u8.wrap ((Go.bits Go.BinOp.xor IntKind.u32 (a.snd.snd.snd.getD x.snd.fst.toNat (0 : Int)) x.fst).fdiv ((2 : Int) ^ Min.min (Int.toNat (8 : Int))
  IntKind.u32.bits)))).set ((0 : Nat) + (IntKind.i64.wrap ((14 : Int) + IntKind.i64.wrap ((4 : Int) * x.snd.fst))).toNat + Int.toNat (2 : Int)) (IntKind.u8.wrap ((Go.bits
  Go.BinOp.xor IntKind.u32 (a.snd.snd.snd.getD x.snd.fst.toNat (0 : Int)) x.fst).fdiv ((2 : Int) ^ Min.min (Int.toNat (16 : Int)) IntKind.u32.bits)))).set ((0 : Nat) +
  (IntKind.i64.wrap ((14 : Int) + IntKind.i64.wrap ((4 : Int) * x.snd.fst))).toNat + Int.toNat (3 : Int)) (IntKind.u8.wrap ((Go.bits Go.BinOp.xor IntKind.u32 (a.snd.snd.snd.getD
  x.snd.fst.toNat (0 : Int)) x.fst).fdiv ((2 : Int) ^ Min.min (Int.toNat (24 : Int)) IntKind.u32.bits))))] ∧ I (a.snd.snd.snd.getD x.snd.fst.toNat (0 : Int), IntKind.i64.wrap
  (x.snd.fst + (1 : Int)), ()) ((((y.fst.set ((0 : Nat) + (IntKind.i64.wrap ((14 : Int) + IntKind.i64.wrap ((4 : Int) * x.snd.fst))).toNat + Int.toNat (0 : Int)) (IntKind.u8.wrap
  (Go.bits Go.BinOp.xor IntKind.u32 (a.snd.snd.snd.getD x.snd.fst.toNat (0 : Int)) x.fst))).set ((0 : Nat) + (IntKind.i64.wrap ((14 : Int) + IntKind.i64.wrap ((4 : Int) *
  x.snd.fst))).toNat + Int.toNat (1 : Int)) (IntKind.u8.wrap ((Go.bits Go.BinOp.xor IntKind.u32 (a.snd.snd.snd.getD x.snd.fst.toNat (0 : Int)) x.fst).fdiv ((2 : Int) ^ Min.min
  (Int.toNat (8 : Int)) IntKind.u32.bits)))).set ((0 : Nat) + (IntKind.i64.wrap ((14 : Int) + IntKind.i64.wrap ((4 : Int) * x.snd.fst))).toNat + Int.toNat (2 : Int))
  (IntKind.u8.wrap ((Go.bits Go.BinOp.xor IntKind.u32 (a.snd.snd.snd.getD x.snd.fst.toNat (0 : Int)) x.fst).fdiv ((2 : Int) ^ Min.min (Int.toNat (16 : Int)) IntKind.u32.bits)))).set
  ((0 : Nat) + (IntKind.i64.wrap ((14 : Int) + IntKind.i64.wrap ((4 : Int) * x.snd.fst))).toNat + Int.toNat (3 : Int)) (IntKind.u8.wrap ((Go.bits Go.BinOp.xor IntKind.u32
  (a.snd.snd.snd.getD x.snd.fst.toNat (0 : Int)) x.fst).fdiv ((2 : Int) ^ Min.min (Int.toNat (24 : Int)) IntKind.u32.bits))), ()) ∧ μ (a.snd.snd.snd.getD x.snd.fst.toNat (0 : Int),
  IntKind.i64.wrap (x.snd.fst + (1 : Int)), ()) ((((y.fst.set ((0 : Nat) + (IntKind.i64.wrap ((14 : Int) + IntKind.i64.wrap ((4 : Int) * x.snd.fst))).toNat + Int.toNat (0 : Int))
  (IntKind.u8.wrap (Go.bits Go.BinOp.xor IntKind.u32 (a.snd.snd.snd.getD x.snd.fst.toNat (0 : Int)) x.fst))).set ((0 : Nat) + (IntKind.i64.wrap ((14 : Int) + IntKind.i64.wrap ((4 :
  Int) * x.snd.fst))).toNat + Int.toNat (1 : Int)) (IntKind.u8.wrap ((Go.bits Go.BinOp.xor IntKind.u32 (a.snd.snd.snd.getD x.snd.fst.toNat (0 : Int)) x.fst).fdiv ((2 : Int) ^
  Min.min (Int.toNat (8 : Int)) IntKind.u32.bits)))).set ((0 : Nat) + (IntKind.i64.wrap ((14 : Int) + IntKind.i64.wrap ((4 : Int) * x.snd.fst))).toNat + Int.toNat (2 : Int))
  (IntKind.u8.wrap ((Go.bits Go.BinOp.xor IntKind.u32 (a.snd.snd.snd.getD x.snd.fst.toNat (0 : Int)) x.fst).fdiv ((2 : Int) ^ Min.min (Int.toNat (16 : Int)) IntKind.u32.bits)))).set
  ((0 : Nat) + (IntKind.i64.wrap ((14 : Int) + IntKind.i64.wrap ((4 : Int) * x.snd.fst))).toNat + Int.toNat (3 : Int)) (IntKind.u8.wrap ((Go.bits Go.BinOp.xor IntKind.u32
  (a.snd.snd.snd.getD x.snd.fst.toNat (0 : Int)) x.fst).fdiv ((2 : Int) ^ Min.min (Int.toNat (24 : Int)) IntKind.u32.bits))), ()) < μ x y) (((0 : Nat) = (0 : Nat) ∧
  (IntKind.i64.wrap ((14 : Int) + IntKind.i64.wrap ((4 : Int) * (↑a.snd.snd.snd.length : Int)))).toNat = y.fst.length) ∧ post (y.fst, (0 : Int), ()))))))
theorem Lx_tile_Encode (ty0 ty1 : Nat) (a : Int × Int × Int × List Int) (h : TiOk a) (w : KS.wf [kTile] (a, ())) : Fx_tile_Encode ty0 ty1 a (fun r => r = encodeR a) := by
  obtain ⟨hf, hle, hmo, hce⟩ := h
  have hl : a.2.2.2.length ≤ maxN := w.1.2.2.2.1
  unfold maxN at hl
  have fin : goodT a = false → (([] : List Int), (1 : Int), ()) = encodeR a := by intro q; unfold encodeR; rw [if_neg (by rw [q]; decide)]
  refine ⟨⟨by omega, by omega⟩, ?_⟩
  rintro _ rfl
  refine Br.intro (fun e => fin ?_) fun e => ?_
  · have e := of_decide_eq_true e
    unfold goodT; rw [decide_eq_false (by omega)]; rfl
  have e0 := of_decide_eq_false e
  rintro _ rfl
  refine Br.intro (fun e => fin ?_) fun e => ?_
  · have e := of_decide_eq_true e
    unfold goodT; rw [decide_eq_false (p := a.1 ≤ 5) (by omega), Bool.and_false]; rfl
  have e1 := of_decide_eq_false e
  rintro _ rfl
  refine Br.intro (fun e => fin ?_) fun e => ?_
  · have e : rootI a.2.2.2.length = 0 := eq_of_beq e
    unfold goodT; rw [e, decide_eq_false (p := (0 : Int) ≠ 0) (by decide), Bool.and_false]; rfl
  have e2 : rootI a.2.2.2.length ≠ 0 := by intro q; have e : (rootI a.2.2.2.length == 0) = false := e; rw [q] at e; cases e
  have hp : 0 < a.2.2.2.length := by
    obtain ⟨r1, r2, r3⟩ := root_rng e2
    have := Int.mul_le_mul r1 r1 (by omega) (by omega)
    omega
  have gl : goodT a = lowT a := by
    unfold goodT
    rw [decide_eq_true (p := 0 ≤ a.1) (by omega), decide_eq_true (p := a.1 ≤ 5) (by omega), decide_eq_true e2]; rfl
  refine ⟨hp, ?_⟩
  rintro _ rfl
  refine Br.intro (fun e => fin ?_) fun e => ?_
  · have e : (!lowT a) = true := e
    rw [gl]; simpa using e
  have g : goodT a = true := by have e : (!lowT a) = false := e; rw [gl]; simpa using e
  obtain ⟨f0, f5, r1', r2', r3', l1, l2, _⟩ := good_facts g
  have wf' : IntKind.u8.wrap a.1 = a.1 := by rw [wrap_u8]; omega
  have wr : IntKind.u8.wrap (rootR (a.2.2.2.length : Int)).1 = rootI a.2.2.2.length := by rw [wrap_u8]; show rootI a.2.2.2.length % 256 = _; omega
  have wN : IntKind.i64.wrap (14 + IntKind.i64.wrap (4 * (a.2.2.2.length : Int))) = ((14 + 4 * a.2.2.2.length : Nat) : Int) := by
    rw [wi (x := 4 * (a.2.2.2.length : Int)) ⟨by omega, by omega⟩, wi ⟨by omega, by omega⟩]; omega
  rw [wN, tileS_eq, wf', wr, put8 hle, put16 hle, put24 hle, put8 hmo, put16 hmo, put24 hmo, wrap_u8 a.2.1, wrap_u8 a.2.2.1, Int.toNat_natCast, enc_init]
  generalize hH : [84, 73, 76, 69, a.1, rootI a.2.2.2.length, a.2.1 % 256, a.2.1 / 256 % 256, a.2.1 / 65536 % 256, a.2.1 / 16777216 % 256, a.2.2.1 % 256, a.2.2.1 / 256 % 256, a.2.2.1 / 65536 % 256, a.2.2.1 / 16777216 % 256] = H
  have hHl : H.length = 14 := by rw [← hH]; rfl
  have he : encodeR a = (H ++ encL 0 a.2.2.2, 0, ()) := by
    unfold encodeR; rw [if_pos g, ← hH]; rfl
  refine ⟨⟨by omega, by omega, by omega⟩, by show 4 ≤ _; omega, ⟨by omega, by omega⟩, ⟨by omega, by omega⟩, ⟨by omega, by omega, by omega⟩, by decide, by decide, by decide, ⟨by omega, by omega⟩, ⟨by omega, by omega⟩, ⟨by omega, by omega⟩, ⟨by omega, by omega⟩, ⟨by omega, by omega, by omega⟩, by decide, by decide, by decide, ⟨by omega, by omega⟩, ⟨by omega, by omega⟩, ⟨by omega, by omega⟩, ⟨by omega, by omega⟩, rfl,
    fun x y => ∃ (i : Nat) (D : List Int), x.2.1 = i ∧ i ≤ a.2.2.2.length ∧ y.1 = H ++ D ++ List.replicate (4 * (a.2.2.2.length - i)) 0 ∧ U32 x.1 ∧ D.length = 4 * i ∧ encL 0 a.2.2.2 = D ++ encL x.1 (a.2.2.2.drop i), fun x _ => a.2.2.2.length - x.2.1.toNat, ⟨0, [], rfl, by omega, by rw [List.append_nil]; rfl, ⟨by decide, by decide⟩, rfl, rfl⟩, ?_⟩
  rintro ⟨p, _, ⟨⟩⟩ ⟨_, ⟨⟩⟩ ⟨i, D, rfl, hil, rfl, hp, hD, hE⟩
  dsimp only at hp hE ⊢
  have hxl : (H ++ D).length = 14 + 4 * i := by rw [List.length_append, hHl, hD]
  rintro _ rfl
  refine Br.intro (fun e => ?_) fun e => ?_
  · have e : i < a.2.2.2.length := by have := of_decide_eq_true e; omega
    have wP : IntKind.i64.wrap (14 + IntKind.i64.wrap (4 * (i : Int))) = ((14 + 4 * i : Nat) : Int) := by
      rw [wi (x := 4 * (i : Int)) ⟨by omega, by omega⟩, wi ⟨by omega, by omega⟩]; omega
    have hc := hce _ (getD_mem e 0)
    obtain ⟨k, hk⟩ : ∃ k, a.2.2.2.length - i = 1 + k := ⟨a.2.2.2.length - i - 1, by omega⟩
    have hk2 : a.2.2.2.length - (i + 1) = k := by omega
    rw [wP, Int.toNat_natCast i, wi_succ e (by omega), xor_u32 hc hp, put8 (xorI_rng hc hp), put16 (xorI_rng hc hp), put24 (xorI_rng hc hp), wrap_u8, hk, Nat.mul_add, enc_step hxl]
    rw [drop_step e 0, encL_cons] at hE
    refine ⟨⟨by omega, by omega⟩, ⟨by omega, by omega, by omega⟩, by decide, by decide, by decide, ⟨by omega, by omega⟩, ⟨by omega, by omega⟩, ⟨by omega, by omega⟩, ⟨by omega, by omega⟩, rfl, ⟨i + 1, D ++ bytes4 (xorI (a.2.2.2.getD i 0) p), rfl, by omega, ?_, hc, by rw [List.length_append, hD]; show _ + 4 = _; omega, by rw [hE, List.append_assoc]⟩, by omega⟩
    rw [hk2, ← List.append_assoc]; rfl
  · have e : ¬ i < a.2.2.2.length := by have := of_decide_eq_false e; omega
    rw [List.drop_eq_nil_of_le (by omega)] at hE
    have hE2 : encL 0 a.2.2.2 = D := by rw [hE]; exact List.append_nil _
    have z : a.2.2.2.length - i = 0 := by omega
    have r0 : List.replicate (4 * 0) (0 : Int) = [] := rfl
    rw [he, hE2, z, r0, List.append_nil]
    exact ⟨⟨rfl, by rw [hxl]; omega⟩, rfl⟩
def Fx_tile_Decode := fun (ty25 ty22 : Nat) (b : List Int) (post : (Int × Int × Int × List Int) × Int × Unit → Prop) => ∀ (a : Bool), a = decide ((↑b.length : Int) < (14 : Int)) →
  Br a (post (((0 : Int), (0 : Int), (0 : Int), []), (31 : Int), ())) (∃ (h : (0 : Int) ≤ (4 : Int) ∧ (4 : Int) < (↑b.length : Int)), ∃ (h : (0 : Int) ≤ (6 : Int) ∧ (6 : Int) ≤
  (↑b.length : Int) ∧ (↑b.length : Int) ≤ (↑b.length : Int)), ∃ (h : WNum4 (List.take ((↑b.length : Int) - (6 : Int)).toNat (List.drop (Int.toNat (6 : Int)) b))), ∃ (h : (0 : Int) ≤
  (10 : Int) ∧ (10 : Int) ≤ (↑b.length : Int) ∧ (↑b.length : Int) ≤ (↑b.length : Int)), ∃ (h : WNum4 (List.take ((↑b.length : Int) - (10 : Int)).toNat (List.drop (Int.toNat (10 :
  Int)) b))), ∃ (h : (0 : Int) ≤ (5 : Int) ∧ (5 : Int) < (↑b.length : Int)), ∃ (h : (0 : Int) ≤ (0 : Int) ∧ (0 : Int) ≤ (4 : Int) ∧ (4 : Int) ≤ (↑b.length : Int)), ∀ (a : Bool), (a
  = if Bool.true = Bool.true then !decide (List.map byteOf (List.take ((4 : Int) - (0 : Int)).toNat (List.drop (Int.toNat (0 : Int)) b)) = strBytes { data := #[(84 : UInt8), (73 :
  UInt8), (76 : UInt8), (69 : UInt8)] }) else decide (List.map byteOf (List.take ((4 : Int) - (0 : Int)).toNat (List.drop (Int.toNat (0 : Int)) b)) = strBytes { data := #[(84 :
  UInt8), (73 : UInt8), (76 : UInt8), (69 : UInt8)] })) → Br a (post (((0 : Int), (0 : Int), (0 : Int), []), (30 : Int), ())) (∀ (a : Bool), a = decide (IntKind.i64.wrap (b.getD
  (Int.toNat (4 : Int)) (0 : Int)) ≥ (6 : Int)) → Br a (post (((0 : Int), (0 : Int), (0 : Int), []), (30 : Int), ())) (∀ (a : Bool), a = decide (IntKind.i64.wrap (b.getD (Int.toNat
  (5 : Int)) (0 : Int)) < (1 : Int)) → Br a (post (((0 : Int), (0 : Int), (0 : Int), []), (30 : Int), ())) (∀ (a : Bool), a = decide (IntKind.i64.wrap (b.getD (Int.toNat (5 : Int))
  (0 : Int)) > (32 : Int)) → Br a (post (((0 : Int), (0 : Int), (0 : Int), []), (30 : Int), ())) (∀ (a : Bool), a = decide ((↑b.length : Int) < IntKind.i64.wrap ((14 : Int) +
  IntKind.i64.wrap (IntKind.i64.wrap ((4 : Int) * IntKind.i64.wrap (b.getD (Int.toNat (5 : Int)) (0 : Int))) * IntKind.i64.wrap (b.getD (Int.toNat (5 : Int)) (0 : Int))))) → Br a
  (post (((0 : Int), (0 : Int), (0 : Int), []), (31 : Int), ())) (∀ (a : Bool), a = decide ((↑b.length : Int) > IntKind.i64.wrap ((14 : Int) + IntKind.i64.wrap (IntKind.i64.wrap ((4
  : Int) * IntKind.i64.wrap (b.getD (Int.toNat (5 : Int)) (0 : Int))) * IntKind.i64.wrap (b.getD (Int.toNat (5 : Int)) (0 : Int))))) → Br a (post (((0 : Int), (0 : Int), (0 : Int),
  []), (3 : Int), ())) (∃ (h : (0 : Int) ≤ IntKind.i64.wrap (IntKind.i64.wrap (b.getD (Int.toNat (5 : Int)) (0 : Int)) * IntKind.i64.wrap (b.getD (Int.toNat (5 : Int)) (0 : Int))) ∧
  IntKind.i64.wrap (IntKind.i64.wrap (b.getD (Int.toNat (5 : Int)) (0 : Int)) * IntKind.i64.wrap (b.getD (Int.toNat (5 : Int)) (0 : Int))) ≤ IntKind.i64.wrap (IntKind.i64.wrap
  (b.getD (Int.toNat (5 : Int)) (0 : Int)) * IntKind.i64.wrap (b.getD (Int.toNat (5 : Int)) (0 : Int))) ∧ IntKind.i64.wrap (IntKind.i64.wrap (b.getD (Int.toNat (5 : Int)) (0 : Int))
  * IntKind.i64.wrap (b.getD (Int.toNat (5 : Int)) (0 : Int))) * (↑(4 : Nat) : Int) ≤ (281474976710656 : Int)), HIs [HObj.box Md.rw ty25 [SV.val (Go.Value.int IntKind.i64 (0 :
  Int)), SV.val (Go.Value.int IntKind.u32 (0 : Int)), SV.val (Go.Value.int IntKind.u32 (0 : Int)), SV.val (Go.Value.slice Option.none (0 : Nat) (0 : Nat))], HObj.box Md.rw ty25
  [SV.val (Go.Value.int IntKind.i64 (IntKind.i64.wrap (b.getD (Int.toNat (4 : Int)) (0 : Int)))), SV.val (Go.Value.int IntKind.u32 (num4R (List.take ((↑b.length : Int) - (6 :
  Int)).toNat (List.drop (Int.toNat (6 : Int)) b))).fst), SV.val (Go.Value.int IntKind.u32 (num4R (List.take ((↑b.length : Int) - (10 : Int)).toNat (List.drop (Int.toNat (10 : Int))
  b))).fst), SV.osl (2 : Nat) (0 : Nat) (IntKind.i64.wrap (IntKind.i64.wrap (b.getD (Int.toNat (5 : Int)) (0 : Int)) * IntKind.i64.wrap (b.getD (Int.toNat (5 : Int)) (0 :
  Int)))).toNat], HObj.row Md.rw ty22 (K.int IntKind.u32) (List.replicate (IntKind.i64.wrap (IntKind.i64.wrap (b.getD (Int.toNat (5 : Int)) (0 : Int)) * IntKind.i64.wrap (b.getD
  (Int.toNat (5 : Int)) (0 : Int)))).toNat (0 : Int))] [HObj.box Md.rw ty25 [SV.val (Go.Value.int IntKind.i64 (0 : Int)), SV.val (Go.Value.int IntKind.u32 (0 : Int)), SV.val
  (Go.Value.int IntKind.u32 (0 : Int)), SV.val (Go.Value.slice Option.none (0 : Nat) (0 : Nat))], HObj.box Md.rw ty25 [SV.val (Go.Value.int IntKind.i64 (IntKind.i64.wrap (b.getD
  (Int.toNat (4 : Int)) (0 : Int)))), SV.val (Go.Value.int IntKind.u32 (num4R (List.take ((↑b.length : Int) - (6 : Int)).toNat (List.drop (Int.toNat (6 : Int)) b))).fst), SV.val
  (Go.Value.int IntKind.u32 (num4R (List.take ((↑b.length : Int) - (10 : Int)).toNat (List.drop (Int.toNat (10 : Int)) b))).fst), SV.osl (2 : Nat) (0 : Nat) (IntKind.i64.wrap
  (IntKind.i64.wrap (b.getD (Int.toNat (5 : Int)) (0 : Int)) * IntKind.i64.wrap (b.getD (Int.toNat (5 : Int)) (0 : Int)))).toNat], HObj.row Md.rw ty22 (K.int IntKind.u32)
  (List.replicate (IntKind.i64.wrap (IntKind.i64.wrap (b.getD (Int.toNat (5 : Int)) (0 : Int)) * IntKind.i64.wrap (b.getD (Int.toNat (5 : Int)) (0 : Int)))).toNat (0 : Int))] ∧ ∃ (I
  : Int × Int × Unit → List Int × Unit → Prop), ∃ (μ : Int × Int × Unit → List Int × Unit → Nat), I ((0 : Int), (0 : Int), ()) (List.replicate (IntKind.i64.wrap (IntKind.i64.wrap
  (b.getD (Int.toNat (5 : Int)) (0 : Int)) * IntKind.i64.wrap (b.getD (Int.toNat (5 : Int)) (0 : Int)))).toNat (0 : Int), ()) ∧ ∀ (x : Int × Int × Unit) (y : List Int × Unit), I x y
  → ∀ (a : Bool), a = decide (x.snd.fst < (↑(IntKind.i64.wrap (IntKind.i64.wrap (b.getD (Int.toNat (5 : Int)) (0 : Int)) * IntKind.i64.wrap (b.getD (Int.toNat (5 : Int)) (0 :
  Int)))).toNat : Int)) → Br a (∃ (h : (0 : Int) ≤ IntKind.i64.wrap ((14 : Int) + IntKind.i64.wrap ((4 : Int) * x.snd.fst)) ∧ IntKind.i64.wrap ((14 : Int) + IntKind.i64.wrap ((4 :
  Int) * x.snd.fst)) ≤ (↑b.length : Int) ∧ (↑b.length : Int) ≤ (↑b.length : Int)), ∃ (h : WNum4 (List.take ((↑b.length : Int) - IntKind.i64.wrap ((14 : Int) + IntKind.i64.wrap ((4 :
  Int) * x.snd.fst))).toNat (List.drop (IntKind.i64.wrap ((14 : Int) + IntKind.i64.wrap ((4 : Int) * x.snd.fst))).toNat b))), ∃ (h : (0 : Int) ≤ x.snd.fst ∧ x.snd.fst <
  (↑(IntKind.i64.wrap (IntKind.i64.wrap (b.getD (Int.toNat (5 : Int)) (0 : Int)) * IntKind.i64.wrap (b.getD (Int.toNat (5 : Int)) (0 : Int)))).toNat : Int)), HIs [HObj.box Md.rw
  ty25 [SV.val (Go.Value.int IntKind.i64 (0 : Int)), SV.val (Go.Value.int IntKind.u32 (0 : Int)), SV.val (Go.Value.int IntKind.u32 (0 : Int)), SV.val (Go.Value.slice Option.none (0
  : Nat) (0 : Nat))], HObj.box Md.rw ty25 [SV.val (Go.Value.int IntKind.i64 (IntKind.i64.wrap (b.getD (Int.toNat (4 : Int)) (0 : Int)))), SV.val (Go.Value.int IntKind.u32 (num4R
  (List.take ((↑b.length : Int) - (6 : Int)).toNat (List.drop (Int.toNat (6 : Int)) b))).fst), SV.val (Go.Value.int IntKind.u32 (num4R (List.take ((↑b.length : Int) - (10 :
  Int)).toNat (List.drop (Int.toNat (10 : Int)) b))).fst), SV.osl (2 : Nat) (0 : Nat) (IntKind.i64.wrap (IntKind.i64.wrap (b.getD (Int.toNat (5 : Int)) (0 : Int)) * IntKind.i64.wrap
  (b.getD (Int.toNat (5 : Int)) (0 : Int)))).toNat], HObj.row Md.rw ty22 (K.int IntKind.u32) (y.fst.set ((0 : Nat) + x.snd.fst.toNat) (Go.bits Go.BinOp.xor IntKind.u32 x.fst (num4R
  (List.take ((↑b.length : Int) - IntKind.i64.wrap ((14 : Int) + IntKind.i64.wrap ((4 : Int) * x.snd.fst))).toNat (List.drop (IntKind.i64.wrap ((14 : Int) + IntKind.i64.wrap ((4 :
  Int) * x.snd.fst))).toNat b))).fst))] [HObj.box Md.rw ty25 [SV.val (Go.Value.int IntKind.i64 (0 : Int)), SV.val (Go.Value.int IntKind.u32 (0 : Int)), SV.val (Go.Value.int
  IntKind.u32 (0 : Int)), SV.val (Go.Value.slice Option.none (0 : Nat) (0 : Nat))], HObj.box Md.rw ty25 [SV.val (Go.Value.int IntKind.i64 (IntKind.i64.wrap (b.getD (Int.toNat (4 :
  Int)) (0 : Int)))), SV.val (Go.Value.int IntKind.u32 (num4R (List.take ((↑b.length : Int) - (6 : Int)).toNat (List.drop (Int.toNat (6 : Int)) b))).fst), SV.val (Go.Value.int
  IntKind.u32 (num4R (List.take ((↑b.length : Int) - (10 : Int)).toNat (List.drop (Int.toNat (10 : Int)) b))).fst), SV.osl (2 : Nat) (0 : Nat) (IntKind.i64.wrap (IntKind.i64.wrap
  (b.getD (Int.toNat (5 : Int)) (0 : Int)) * IntKind.i64.wrap (b.getD (Int.toNat (5 : Int)) (0 : Int)))).toNat], HObj.row Md.rw ty22 (K.int IntKind.u32) (y.fst.set ((0 : Nat) +
  x.snd.fst.toNat) (Go.bits Go.BinOp.xor IntKind.u32 x.fst (num4R (List.take ((↑b.length : Int) - IntKind.i64.wrap ((14 : Int) + IntKind.i64.wrap ((4 : Int) * x.snd.fst))).toNat
  (List.drop (IntKind.i64.wrap ((14 : Int) + IntKind.i64.wrap ((4 : Int) * x.snd.fst))).toNat b))).fst))] ∧ I (Go.bits Go.BinOp.xor IntKind.u32 x.fst (num4R (List.take ((↑b.length :
  Int) - IntKind.i64.wrap ((14 : Int) + IntKind.i64.wrap ((4 : Int) * x.snd.fst))).toNat (List.drop (IntKind.i64.wrap ((14 : Int) + IntKind.i64.wrap ((4 : Int) * x.snd.fst))).toNat
  b))).fst, IntKind.i64.wrap (x.snd.fst + (1 : Int)), ()) (y.fst.set ((0 : Nat) + x.snd.fst.toNat) (Go.bits Go.BinOp.xor IntKind.u32 x.fst (num4R (List.take ((↑b.length : Int) -
  IntKind.i64.wrap ((14 : Int) + IntKind.i64.wrap ((4 : Int) * x.snd.fst))).toNat (List.drop (IntKind.i64.wrap ((14 : Int) + IntKind.i64.wrap ((4 : Int) * x.snd.fst))).toNat
  b))).fst), ()) ∧ μ (Go.bits Go.BinOp.xor IntKind.u32 x.fst (num4R (List.take ((↑b.length : Int) - IntKind.i64.wrap ((14 : Int) + IntKind.i64.wrap ((4 : Int) * x.snd.fst))).toNat
  (List.drop (IntKind.i64.wrap ((14 : Int) + IntKind.i64.wrap ((4 : Int) * x.snd.fst))).toNat b))).fst, IntKind.i64.wrap (x.snd.fst + (1 : Int)), ()) (y.fst.set ((0 : Nat) +
  x.snd.fst.toNat) (Go.bits Go.BinOp.xor IntKind.u32 x.fst (num4R (List.take ((↑b.length : Int) - IntKind.i64.wrap ((14 : Int) + IntKind.i64.wrap ((4 : Int) * x.snd.fst))).toNat
  (List.drop (IntKind.i64.wrap ((14 : Int) + IntKind.i64.wrap ((4 : Int) * x.snd.fst))).toNat b))).fst), ()) < μ x y) (∃ (h : NET (IntKind.i64.wrap (b.getD (Int.toNat (4 : Int)) (0
  : Int)), (num4R (List.take ((↑b.length : Int) - (6 : Int)).toNat (List.drop (Int.toNat (6 : Int)) b))).fst, (num4R (List.take ((↑b.length : Int) - (10 : Int)).toNat (List.drop
  (Int.toNat (10 : Int)) b))).fst, List.take (IntKind.i64.wrap (IntKind.i64.wrap (b.getD (Int.toNat (5 : Int)) (0 : Int)) * IntKind.i64.wrap (b.getD (Int.toNat (5 : Int)) (0 :
  Int)))).toNat (List.drop (0 : Nat) y.fst))), ∀ (a : Bool), a = (lowR (IntKind.i64.wrap (b.getD (Int.toNat (4 : Int)) (0 : Int)), (num4R (List.take ((↑b.length : Int) - (6 :
  Int)).toNat (List.drop (Int.toNat (6 : Int)) b))).fst, (num4R (List.take ((↑b.length : Int) - (10 : Int)).toNat (List.drop (Int.toNat (10 : Int)) b))).fst, List.take
  (IntKind.i64.wrap (IntKind.i64.wrap (b.getD (Int.toNat (5 : Int)) (0 : Int)) * IntKind.i64.wrap (b.getD (Int.toNat (5 : Int)) (0 : Int)))).toNat (List.drop (0 : Nat) y.fst))).fst
  → Br (!a) (post (((0 : Int), (0 : Int), (0 : Int), []), (30 : Int), ())) (post ((IntKind.i64.wrap (b.getD (Int.toNat (4 : Int)) (0 : Int)), (num4R (List.take ((↑b.length : Int) -
  (6 : Int)).toNat (List.drop (Int.toNat (6 : Int)) b))).fst, (num4R (List.take ((↑b.length : Int) - (10 : Int)).toNat (List.drop (Int.toNat (10 : Int)) b))).fst, List.take
  (IntKind.i64.wrap (IntKind.i64.wrap (b.getD (Int.toNat (5 : Int)) (0 : Int)) * IntKind.i64.wrap (b.getD (Int.toNat (5 : Int)) (0 : Int)))).toNat (List.drop (0 : Nat) y.fst)), (0 :
  Int), ()))))))))))
theorem Lx_tile_Decode (ty0 ty1 : Nat) (b : List Int) (h : BLs b) (w : KS.wf [.slice (.int .u8)] (b, ())) : Fx_tile_Decode ty0 ty1 b (fun r => r = decodeR b) := by
  have U : ∀ k, k < b.length → U8 (b.getD k 0) := fun k hk => h _ (getD_mem hk 0)
  have hl : b.length ≤ maxN := w.1.1
  unfold maxN at hl
  have fin : ∀ t e, decodeT b = (t, e) → (t, e, ()) = decodeR b := by intro t e q; show _ = ((decodeT b).1, (decodeT b).2, ()); rw [q]
  rintro _ rfl
  refine Br.intro (fun e => fin _ _ ?_) fun e => ?_
  · unfold decodeT; rw [if_pos (by have := of_decide_eq_true e; omega)]; rfl
  have e0 : ¬ b.length < 14 := by have := of_decide_eq_false e; omega
  obtain ⟨w5', w55, w14⟩ := wrap_small (U 5 (by omega))
  have w5 : IntKind.i64.wrap (b.getD (Int.toNat (5 : Int)) (0 : Int)) = b.getD 5 0 := w5'
  have w4 : IntKind.i64.wrap (b.getD (Int.toNat (4 : Int)) (0 : Int)) = b.getD 4 0 := (wrap_small (U 4 (by omega))).1
  have u4 := U 4 (by omega)
  have u5 := U 5 (by omega)
  have bad : (b.take 4 ≠ [84, 73, 76, 69] ∨ b.getD 4 0 > 5 ∨ b.getD 5 0 < 1 ∨ b.getD 5 0 > 32) → decodeT b = (zeroT, 30) := by
    intro q; unfold decodeT; rw [if_neg e0, if_pos q]
  
  rw [w5, w4, w14, w55, tail_eq (b := b) (j := 6) 6 rfl, tail_eq (b := b) (j := 10) 10 rfl, num4_drop, num4_drop, head_eq h]
  refine ⟨⟨by omega, by omega⟩, ⟨by omega, by omega, by omega⟩, wnum4_drop h (by omega), ⟨by omega, by omega, by omega⟩, wnum4_drop h (by omega), ⟨by omega, by omega⟩, ⟨by omega, by omega, by omega⟩, ?_⟩
  
  rintro _ rfl
  refine Br.intro (fun e => fin _ _ (bad (.inl ?_))) fun e => ?_
  · have e : (!decide (b.take 4 = [84, 73, 76, 69])) = true := e
    simpa using e
  have g0 : b.take 4 = [84, 73, 76, 69] := by have e : (!decide (b.take 4 = [84, 73, 76, 69])) = false := e; simpa using e
  rintro _ rfl
  refine Br.intro (fun e => fin _ _ (bad (.inr (.inl ?_)))) fun e => ?_
  · have e : b.getD 4 0 ≥ 6 := of_decide_eq_true e
    omega
  have g1 : ¬ b.getD 4 0 > 5 := by
    have e : ¬ b.getD 4 0 ≥ 6 := of_decide_eq_false e
    omega
  rintro _ rfl
  refine Br.intro (fun e => fin _ _ (bad (.inr (.inr (.inl (of_decide_eq_true e)))))) fun e => ?_
  have g2 : ¬ b.getD 5 0 < 1 := of_decide_eq_false e
  rintro _ rfl
  refine Br.intro (fun e => fin _ _ (bad (.inr (.inr (.inr (of_decide_eq_true e)))))) fun e => ?_
  have g3 : ¬ b.getD 5 0 > 32 := of_decide_eq_false e
  have g : ¬ (b.take 4 ≠ [84, 73, 76, 69] ∨ b.getD 4 0 > 5 ∨ b.getD 5 0 < 1 ∨ b.getD 5 0 > 32) := by
    rintro (q | q | q | q)
    · exact q g0
    · exact g1 q
    · exact g2 q
    · exact g3 q
  rintro _ rfl
  refine Br.intro (fun e => fin _ _ ?_) fun e => ?_
  · have e : (b.length : Int) < 14 + 4 * b.getD 5 0 * b.getD 5 0 := of_decide_eq_true e
    unfold decodeT; rw [if_neg e0, if_neg g, if_pos e]; rfl
  have g4 : ¬ (b.length : Int) < 14 + 4 * b.getD 5 0 * b.getD 5 0 := of_decide_eq_false e
  rintro _ rfl
  refine Br.intro (fun e => fin _ _ ?_) fun e => ?_
  · have e : (b.length : Int) > 14 + 4 * b.getD 5 0 * b.getD 5 0 := of_decide_eq_true e
    unfold decodeT; rw [if_neg e0, if_neg g, if_neg g4, if_pos e]; rfl
  have g5 : ¬ (b.length : Int) > 14 + 4 * b.getD 5 0 * b.getD 5 0 := of_decide_eq_false e
  have base : decodeT b = if goodT (b.getD 4 0, num4 b 6, num4 b 10, decL b (b.getD 5 0 * b.getD 5 0).toNat 0 0) then ((b.getD 4 0, num4 b 6, num4 b 10, decL b (b.getD 5 0 * b.getD 5 0).toNat 0 0), 0) else (zeroT, 30) := by
    show (if b.length < 14 then _ else _) = _
    rw [if_neg e0, if_neg g, if_neg g4, if_neg g5]
  have sq := sq_bd (n := b.getD 5 0) (by omega) (by omega)
  rw [Int.mul_assoc] at g4 g5
  have rs := root_sq (n := b.getD 5 0) (by omega) (by omega)
  generalize hq : b.getD 5 0 * b.getD 5 0 = q at *
  obtain ⟨m, rfl⟩ : ∃ m : Nat, q = m := ⟨q.toNat, by omega⟩
  rw [Int.toNat_natCast] at base
  
  rw [Int.toNat_natCast]
  refine ⟨⟨by omega, by omega, by omega⟩, rfl, fun x y => ∃ (i : Nat) (P : List Int), x.2.1 = i ∧ i ≤ m ∧ U32 x.1 ∧ P.length = i ∧ y.1 = P ++ List.replicate (m - i) 0 ∧ decL b m 0 0 = P ++ decL b (m - i) i x.1, fun x _ => m - x.2.1.toNat, ⟨0, [], rfl, by omega, ⟨by decide, by decide⟩, rfl, rfl, rfl⟩, ?_⟩
  rintro ⟨l, _, ⟨⟩⟩ ⟨_, ⟨⟩⟩ ⟨i, P, rfl, him, hlr, hP, rfl, hd⟩
  dsimp only at hlr hd ⊢
  rintro _ rfl
  refine Br.intro (fun e => ?_) fun e => ?_
  · have e : i < m := by have := of_decide_eq_true e; omega
    have wi4 : IntKind.i64.wrap (14 + IntKind.i64.wrap (4 * (i : Int))) = ((14 + 4 * i : Nat) : Int) := by
      rw [wi (x := 4 * (i : Int)) ⟨by omega, by omega⟩, wi ⟨by omega, by omega⟩]; omega
    have xr : Go.bits .xor .u32 l (r1 (num4 b (14 + 4 * i))).1 = xorI l (num4 b (14 + 4 * i)) := xor_u32 hlr (num4_rng h (by omega))
    rw [wi4, tail_eq (14 + 4 * i) rfl, num4_drop, wi_succ e (by omega), xr]
    obtain ⟨k, hk⟩ : ∃ k, m - i = k + 1 := ⟨m - i - 1, by omega⟩
    have hk2 : m - (i + 1) = k := by omega
    rw [hk, decL_succ] at hd
    have sx : (P ++ List.replicate (m - i) (0 : Int)).set (0 + (i : Int).toNat) (xorI l (num4 b (14 + 4 * i))) = (P ++ [xorI l (num4 b (14 + 4 * i))]) ++ List.replicate (m - (i + 1)) 0 := by
      rw [hk, hk2, Int.toNat_natCast, Nat.zero_add, List.replicate_succ, set_mid hP, List.append_assoc]; rfl
    refine ⟨⟨by omega, by omega, by omega⟩, wnum4_drop h (by omega), ⟨by omega, by omega⟩, rfl, ⟨i + 1, P ++ [xorI l (num4 b (14 + 4 * i))], rfl, by omega, xorI_rng hlr (num4_rng h (by omega)), by rw [List.length_append, hP]; rfl, sx, ?_⟩, by omega⟩
    rw [hd, hk2, List.append_assoc]; rfl
  · have e : i = m := by have := of_decide_eq_false e; omega
    subst e
    have hP2 : List.take i (List.drop 0 (P ++ List.replicate (i - i) (0 : Int))) = P := by
      rw [Nat.sub_self, List.drop_zero]
      show List.take i (P ++ []) = P
      rw [List.append_nil, List.take_of_length_le (by omega)]
    rw [hP2]
    have hd2 : decL b i 0 0 = P := by rw [hd, Nat.sub_self]; exact List.append_nil _
    rw [hd2] at base
    have gl : goodT (b.getD 4 0, num4 b 6, num4 b 10, P) = lowT (b.getD 4 0, num4 b 6, num4 b 10, P) := by
      unfold goodT
      dsimp only
      rw [hP, rs, decide_eq_true (p := 0 ≤ b.getD 4 0) (by unfold U8 at u4; omega), decide_eq_true (p := b.getD 4 0 ≤ 5) (by omega), decide_eq_true (p := b.getD 5 0 ≠ 0) (by omega)]; rfl
    refine ⟨by show 0 < P.length; omega, ?_⟩
    rintro _ rfl
    refine Br.intro (fun f => fin _ _ ?_) fun f => fin _ _ ?_
    · have f : (!lowT (b.getD 4 0, num4 b 6, num4 b 10, P)) = true := f
      rw [base, gl, if_neg (by intro q; rw [q] at f; cases f)]; rfl
    · have f : (!lowT (b.getD 4 0, num4 b 6, num4 b 10, P)) = false := f
      rw [base, gl, if_pos (by simpa using f)]; rfl
def Fx_tile_Tiles := fun (ty40 ty25 ty22 : Nat) (n : Int) (s : List Nat × List Int × List Int × List Nat × Int × Int) (post : List (Int × Int × Int × List Int) × Int × Unit → Prop)
  => ∃ (h : WCheck n (s.fst, s.snd.fst, s.snd.snd.fst, s.snd.snd.snd.fst, s.snd.snd.snd.snd.fst, s.snd.snd.snd.snd.snd)), ∀ (a : Bool), a = ((checkR n (s.fst, s.snd.fst,
  s.snd.snd.fst, s.snd.snd.snd.fst, s.snd.snd.snd.snd.fst, s.snd.snd.snd.snd.snd)).snd.fst != (0 : Int)) → Br a (post ([], (checkR n (s.fst, s.snd.fst, s.snd.snd.fst,
  s.snd.snd.snd.fst, s.snd.snd.snd.snd.fst, s.snd.snd.snd.snd.snd)).snd.fst, ())) (∃ (h : (0 : Int) ≤ (6 : Int) ∧ (6 : Int) ≤ (6 : Int) ∧ (6 : Int) * (↑(40 : Nat) : Int) ≤
  (281474976710656 : Int)), HIs [HObj.box Md.rw ty40 [SV.data (K.flt Go.FloatKind.f64).slice s.fst, SV.data (K.int IntKind.i64).slice s.snd.fst, SV.data (K.int IntKind.i64).slice
  s.snd.snd.fst, SV.data (K.flt Go.FloatKind.f64).slice s.snd.snd.snd.fst, SV.val (Go.Value.int IntKind.i64 s.snd.snd.snd.snd.fst), SV.val (Go.Value.int IntKind.i64
  s.snd.snd.snd.snd.snd)], HObj.row Md.rw ty25 ((K.int IntKind.i64).pair ((K.int IntKind.u32).pair ((K.int IntKind.u32).pair (K.int IntKind.u32).slice))) (List.replicate (Int.toNat
  (6 : Int)) ((K.int IntKind.i64).pair ((K.int IntKind.u32).pair ((K.int IntKind.u32).pair (K.int IntKind.u32).slice))).dflt)] [HObj.box Md.rw ty40 [SV.data (K.flt
  Go.FloatKind.f64).slice s.fst, SV.data (K.int IntKind.i64).slice s.snd.fst, SV.data (K.int IntKind.i64).slice s.snd.snd.fst, SV.data (K.flt Go.FloatKind.f64).slice
  s.snd.snd.snd.fst, SV.val (Go.Value.int IntKind.i64 s.snd.snd.snd.snd.fst), SV.val (Go.Value.int IntKind.i64 s.snd.snd.snd.snd.snd)], HObj.row Md.rw ty25 ((K.int IntKind.i64).pair
  ((K.int IntKind.u32).pair ((K.int IntKind.u32).pair (K.int IntKind.u32).slice))) (List.replicate (Int.toNat (6 : Int)) ((K.int IntKind.i64).pair ((K.int IntKind.u32).pair ((K.int
  IntKind.u32).pair (K.int IntKind.u32).slice))).dflt)] ∧ ∃ (I : Int × Unit → List (Int × Int × Int × List Int) × Unit → Prop), ∃ (μ : Int × Unit → List (Int × Int × Int × List Int)
  × Unit → Nat), I ((0 : Int), ()) (List.replicate (Int.toNat (6 : Int)) ((K.int IntKind.i64).pair ((K.int IntKind.u32).pair ((K.int IntKind.u32).pair (K.int
  IntKind.u32).slice))).dflt, ()) ∧ ∀ (x : Int × Unit) (y : List (Int × Int × Int × List Int) × Unit), I x y → ∀ (a : Bool), a = decide (x.fst < (↑(Int.toNat (6 : Int)) : Int)) → Br
  a (∃ (h : (0 : Int) ≤ IntKind.i64.wrap (n * n) ∧ IntKind.i64.wrap (n * n) ≤ IntKind.i64.wrap (n * n) ∧ IntKind.i64.wrap (n * n) * (↑(4 : Nat) : Int) ≤ (281474976710656 : Int)),
  HIs [HObj.box Md.rw ty40 [SV.data (K.flt Go.FloatKind.f64).slice s.fst, SV.data (K.int IntKind.i64).slice s.snd.fst, SV.data (K.int IntKind.i64).slice s.snd.snd.fst, SV.data
  (K.flt Go.FloatKind.f64).slice s.snd.snd.snd.fst, SV.val (Go.Value.int IntKind.i64 s.snd.snd.snd.snd.fst), SV.val (Go.Value.int IntKind.i64 s.snd.snd.snd.snd.snd)], HObj.row Md.rw
  ty25 ((K.int IntKind.i64).pair ((K.int IntKind.u32).pair ((K.int IntKind.u32).pair (K.int IntKind.u32).slice))) y.fst, HObj.row Md.rw ty22 (K.int IntKind.u32) (List.replicate
  (IntKind.i64.wrap (n * n)).toNat (0 : Int))] [HObj.box Md.rw ty40 [SV.data (K.flt Go.FloatKind.f64).slice s.fst, SV.data (K.int IntKind.i64).slice s.snd.fst, SV.data (K.int
  IntKind.i64).slice s.snd.snd.fst, SV.data (K.flt Go.FloatKind.f64).slice s.snd.snd.snd.fst, SV.val (Go.Value.int IntKind.i64 s.snd.snd.snd.snd.fst), SV.val (Go.Value.int
  IntKind.i64 s.snd.snd.snd.snd.snd)], HObj.row Md.rw ty25 ((K.int IntKind.i64).pair ((K.int IntKind.u32).pair ((K.int IntKind.u32).pair (K.int IntKind.u32).slice))) y.fst, HObj.row
  Md.rw ty22 (K.int IntKind.u32) (List.replicate (IntKind.i64.wrap (n * n)).toNat (0 : Int))] ∧ ∃ (I_1 : Int × Unit → List Int × Unit → Prop), ∃ (μ_1 : Int × Unit → List Int × Unit
  → Nat), I_1 ((0 : Int), ()) (List.replicate (IntKind.i64.wrap (n * n)).toNat (0 : Int), ()) ∧ ∀ (x_3 : Int × Unit) (y_1 : List Int × Unit), I_1 x_3 y_1 → ∀ (a : Bool), a = decide
  (x_3.fst < (↑(IntKind.i64.wrap (n * n)).toNat : Int)) → Br a (∃ (h : (0 : Int) ≤ IntKind.i64.wrap (IntKind.i64.wrap (x.fst * IntKind.i64.wrap (n * n)) + x_3.fst) ∧
  IntKind.i64.wrap (IntKind.i64.wrap (x.fst * IntKind.i64.wrap (n * n)) + x_3.fst) < (↑s.snd.fst.length : Int)), ∃ (h : II n (IntKind.i64.wrap (IntKind.i64.wrap (x.fst *
  IntKind.i64.wrap (n * n)) + x_3.fst))), ∃ (h : II (s.snd.fst.getD (IntKind.i64.wrap (IntKind.i64.wrap (x.fst * IntKind.i64.wrap (n * n)) + x_3.fst)).toNat (0 : Int)) (areaR n
  (IntKind.i64.wrap (IntKind.i64.wrap (x.fst * IntKind.i64.wrap (n * n)) + x_3.fst))).fst), ∃ (h : W64 (depthR (s.snd.fst.getD (IntKind.i64.wrap (IntKind.i64.wrap (x.fst *
  IntKind.i64.wrap (n * n)) + x_3.fst)).toNat (0 : Int)) (areaR n (IntKind.i64.wrap (IntKind.i64.wrap (x.fst * IntKind.i64.wrap (n * n)) + x_3.fst))).fst).fst), ∃ (h : (0 : Int) ≤
  x_3.fst ∧ x_3.fst < (↑(IntKind.i64.wrap (n * n)).toNat : Int)), HIs [HObj.box Md.rw ty40 [SV.data (K.flt Go.FloatKind.f64).slice s.fst, SV.data (K.int IntKind.i64).slice
  s.snd.fst, SV.data (K.int IntKind.i64).slice s.snd.snd.fst, SV.data (K.flt Go.FloatKind.f64).slice s.snd.snd.snd.fst, SV.val (Go.Value.int IntKind.i64 s.snd.snd.snd.snd.fst),
  SV.val (Go.Value.int IntKind.i64 s.snd.snd.snd.snd.snd)], HObj.row Md.rw ty25 ((K.int IntKind.i64).pair ((K.int IntKind.u32).pair ((K.int IntKind.u32).pair (K.int
  IntKind.u32).slice))) y.fst, HObj.row Md.rw ty22 (K.int IntKind.u32) (y_1.fst.set ((0 : Nat) + x_3.fst.toNat) (to32R (depthR (s.snd.fst.getD (IntKind.i64.wrap (IntKind.i64.wrap
  (x.fst * IntKind.i64.wrap (n * n)) + x_3.fst)).toNat (0 : Int)) (areaR n (IntKind.i64.wrap (IntKind.i64.wrap (x.fst * IntKind.i64.wrap (n * n)) + x_3.fst))).fst).fst).fst)]
  [HObj.box Md.rw ty40 [SV.data (K.flt Go.FloatKind.f64).slice s.fst, SV.data (K.int IntKind.i64).slice s.snd.fst, SV.data (K.int IntKind.i64).slice s.snd.snd.fst, SV.data (K.flt
  Go.FloatKind.f64).slice s.snd.snd.snd.fst, SV.val (Go.Value.int IntKind.i64 s.snd.snd.snd.snd.fst), SV.val (Go.Value.int IntKind.i64 s.snd.snd.snd.snd.snd)], HObj.row Md.rw ty25
  ((K.int IntKind.i64).pair ((K.int IntKind.u32).pair ((K.int IntKind.u32).pair (K.int IntKind.u32).slice))) y.fst, HObj.row Md.rw ty22 (K.int IntKind.u32) (y_1.fst.set ((0 : Nat) +
  x_3.fst.toNat) (to32R (depthR (s.snd.fst.getD (IntKind.i64.wrap (IntKind.i64.wrap (x.fst * IntKind.i64.wrap (n * n)) + x_3.fst)).toNat (0 : Int)) (areaR n (IntKind.i64.wrap
  (IntKind.i64.wrap (x.fst * IntKind.i64.wrap (n * n)) + x_3.fst))).fst).fst).fst)] ∧ I_1 (IntKind.i64.wrap (x_3.fst + (1 : Int)), ()) (y_1.fst.set ((0 : Nat) + x_3.fst.toNat)
  (to32R (depthR (s.snd.fst.getD (IntKind.i64.wrap (IntKind.i64.wrap (x.fst * IntKind.i64.wrap (n * n)) + x_3.fst)).toNat (0 : Int)) (areaR n (IntKind.i64.wrap (IntKind.i64.wrap
  (x.fst * IntKind.i64.wrap (n * n)) + x_3.fst))).fst).fst).fst, ()) ∧ μ_1 (IntKind.i64.wrap (x_3.fst + (1 : Int)), ()) (y_1.fst.set ((0 : Nat) + x_3.fst.toNat) (to32R (depthR
  (s.snd.fst.getD (IntKind.i64.wrap (IntKind.i64.wrap (x.fst * IntKind.i64.wrap (n * n)) + x_3.fst)).toNat (0 : Int)) (areaR n (IntKind.i64.wrap (IntKind.i64.wrap (x.fst *
  IntKind.i64.wrap (n * n)) + x_3.fst))).fst).fst).fst, ()) < μ_1 x_3 y_1) (∃ (h : NE (List.take (IntKind.i64.wrap (n * n)).toNat (List.drop (0 : Nat) y_1.fst))), ∃ (h : (0 : Int) ≤
  x.fst ∧ x.fst < (↑(Int.toNat (6 : Int)) : Int)), HIs [HObj.box Md.rw ty40 [SV.data (K.flt Go.FloatKind.f64).slice s.fst, SV.data (K.int IntKind.i64).slice s.snd.fst, SV.data
  (K.int IntKind.i64).slice s.snd.snd.fst, SV.data (K.flt Go.FloatKind.f64).slice s.snd.snd.snd.fst, SV.val (Go.Value.int IntKind.i64 s.snd.snd.snd.snd.fst), SV.val (Go.Value.int
  IntKind.i64 s.snd.snd.snd.snd.snd)], HObj.row Md.rw ty25 ((K.int IntKind.i64).pair ((K.int IntKind.u32).pair ((K.int IntKind.u32).pair (K.int IntKind.u32).slice))) (y.fst.set ((0
  : Nat) + x.fst.toNat) (x.fst, (endsR (List.take (IntKind.i64.wrap (n * n)).toNat (List.drop (0 : Nat) y_1.fst))).fst, (endsR (List.take (IntKind.i64.wrap (n * n)).toNat (List.drop
  (0 : Nat) y_1.fst))).snd.fst, List.take (IntKind.i64.wrap (n * n)).toNat (List.drop (0 : Nat) y_1.fst)))] [HObj.box Md.rw ty40 [SV.data (K.flt Go.FloatKind.f64).slice s.fst,
  SV.data (K.int IntKind.i64).slice s.snd.fst, SV.data (K.int IntKind.i64).slice s.snd.snd.fst, SV.data (K.flt Go.FloatKind.f64).slice s.snd.snd.snd.fst, SV.val (Go.Value.int
  IntKind.i64 s.snd.snd.snd.snd.fst), SV.val (Go.Value.int IntKind.i64 s.snd.snd.snd.snd.snd)], HObj.row Md.rw ty25 ((K.int IntKind.i64).pair ((K.int IntKind.u32).pair ((K.int
  IntKind.u32).pair (K.int IntKind.u32).slice))) (y.fst.set ((0 : Nat) + x.fst.toNat) (x.fst, (endsR (List.take (IntKind.i64.wrap (n * n)).toNat (List.drop (0 : Nat) y_1.fst))).fst,
  (endsR (List.take (IntKind.i64.wrap (n * n)).toNat (List.drop (0 : Nat) y_1.fst))).snd.fst, List.take (IntKind.i64.wrap (n * n)).toNat (List.drop (0 : Nat) y_1.fst)))] ∧ I
  (IntKind.i64.wrap (x.fst + (1 : Int)), ()) (y.fst.set ((0 : Nat) + x.fst.toNat) (x.fst, (endsR (List.take (IntKind.i64.wrap (n * n)).toNat (List.drop (0 : Nat) y_1.fst))).fst,
  (endsR (List.take (IntKind.i64.wrap (n * n)).toNat (List.drop (0 : Nat) y_1.fst))).snd.fst, List.take (IntKind.i64.wrap (n * n)).toNat (List.drop (0 : Nat) y_1.fst)), ()) ∧ μ
  (IntKind.i64.wrap (x.fst + (1 : Int)), ()) (y.fst.set ((0 : Nat) + x.fst.toNat) (x.fst, (endsR (List.take (IntKind.i64.wrap (n * n)).toNat (List.drop (0 : Nat) y_1.fst))).fst,
  (endsR (List.take (IntKind.i64.wrap (n * n)).toNat (List.drop (0 : Nat) y_1.fst))).snd.fst, List.take (IntKind.i64.wrap (n * n)).toNat (List.drop (0 : Nat) y_1.fst)), ()) < μ x
  y)) (post (List.take (Int.toNat (6 : Int)) (List.drop (0 : Nat) y.fst), (0 : Int), ())))
theorem Lx_tile_Tiles (ty0 ty1 ty2 : Nat) (n : Int) (s : (List Nat) × (List Int) × (List Int) × (List Nat) × Int × Int) (h : WCheck n s) (w : KS.wf [.int .i64, kSea] (n, s, ())) : Fx_tile_Tiles ty0 ty1 ty2 n s (fun r => r = tilesR n s) := by
  obtain ⟨hn, hs⟩ := h
  refine ⟨⟨hn, hs⟩, ?_⟩
  rintro _ rfl
  refine Br.intro (fun e => ?_) fun e => ?_
  · have e : (checkI n s).2 ≠ 0 := bne_int.1 e
    show _ = ((tilesT n s).1, (tilesT n s).2, ())
    unfold tilesT; rw [if_pos e]; rfl
  have e : (checkI n s).2 = 0 := bne_int.2 e
  obtain ⟨hg, -, hwl, -, -⟩ := check_ok e
  obtain ⟨n1, n2⟩ := goodC_iff.1 hg
  have sq := sq_bd n1 n2
  obtain ⟨m, hm⟩ : ∃ m : Nat, n * n = m := ⟨(n * n).toNat, by omega⟩
  rw [cells_good hg] at hwl
  have wn : IntKind.i64.wrap (n * n) = (m : Int) := by rw [wi ⟨by omega, by omega⟩, hm]
  rw [wn, Int.toNat_natCast]
  rw [hm] at sq hwl
  refine ⟨⟨by decide, by decide, by decide⟩, rfl, fun x y => ∃ f : Nat, x.1 = f ∧ f ≤ 6 ∧ y.1 = (List.range f).map (tileF n s) ++ List.replicate (6 - f) zeroT, fun x _ => 6 - x.1.toNat, ⟨0, rfl, by omega, rfl⟩, ?_⟩
  rintro ⟨_, ⟨⟩⟩ ⟨_, ⟨⟩⟩ ⟨f, rfl, hf, rfl⟩
  dsimp only
  rintro _ rfl
  refine Br.intro (fun e1 => ?_) fun e1 => ?_
  · have e1 : f < 6 := by have e1 : (f : Int) < 6 := of_decide_eq_true e1; omega
    have fm : f * m ≤ 5 * m := Nat.mul_le_mul_right m (by omega)
    have wf : IntKind.i64.wrap ((f : Int) * m) = ((f * m : Nat) : Int) := by rw [← Int.natCast_mul]; exact wi ⟨by omega, by omega⟩
    rw [wf]
    refine ⟨⟨by omega, by omega, by omega⟩, rfl, fun x y => ∃ k : Nat, x.1 = k ∧ k ≤ m ∧ y.1 = ((List.range k).map fun k => cellB n s (f * m + k)) ++ List.replicate (m - k) 0, fun x _ => m - x.1.toNat, ⟨0, rfl, by omega, rfl⟩, ?_⟩
    rintro ⟨_, ⟨⟩⟩ ⟨_, ⟨⟩⟩ ⟨k, rfl, hk, rfl⟩
    dsimp only
    rintro _ rfl
    refine Br.intro (fun e2 => ?_) fun e2 => ?_
    · have e2 : k < m := by have := of_decide_eq_true e2; omega
      have wc : IntKind.i64.wrap (((f * m : Nat) : Int) + k) = ((f * m + k : Nat) : Int) := by rw [← Int.natCast_add]; exact wi ⟨by omega, by omega⟩
      rw [wc, Int.toNat_natCast, wi_succ e2 (by omega)]
      have hc : f * m + k < s.2.1.length := by omega
      have sx : (((List.range k).map fun k => cellB n s (f * m + k)) ++ List.replicate (m - k) (0 : Int)).set (0 + (k : Int).toNat) (cellB n s (f * m + k)) = ((List.range (k + 1)).map fun k => cellB n s (f * m + k)) ++ List.replicate (m - (k + 1)) 0 := by
        obtain ⟨j, hj⟩ : ∃ j, m - k = j + 1 := ⟨m - k - 1, by omega⟩
        rw [hj, show m - (k + 1) = j by omega, List.replicate_succ, Int.toNat_natCast, Nat.zero_add, set_mid (by rw [List.length_map, List.length_range]), range_map_succ, List.append_assoc]; rfl
      exact ⟨⟨by omega, by omega⟩, ⟨hn, by omega, by omega⟩, ⟨hs.2.1 _ (getD_mem hc 0), (area_rng _ _).1⟩, depthQ_w _ _, ⟨by omega, by omega⟩, rfl, ⟨k + 1, rfl, by omega, sx⟩, by omega⟩
    · have e2 : k = m := by have := of_decide_eq_false e2; omega
      subst e2
      have hL : List.take k (List.drop 0 (((List.range k).map fun j => cellB n s (f * k + j)) ++ List.replicate (k - k) (0 : Int))) = (List.range k).map fun j => cellB n s (f * k + j) := by
        rw [Nat.sub_self, List.drop_zero]
        show List.take k (_ ++ []) = _
        rw [List.append_nil, List.take_of_length_le (by rw [List.length_map, List.length_range]; omega)]
      rw [hL, wi_succ e1 (by omega)]
      refine ⟨by show 0 < List.length _; rw [List.length_map, List.length_range]; omega, ⟨by omega, by show (f : Int) < 6; omega⟩, rfl, ⟨f + 1, rfl, by omega, ?_⟩, by omega⟩
      obtain ⟨j, hj⟩ : ∃ j, 6 - f = j + 1 := ⟨6 - f - 1, by omega⟩
      rw [hj, show 6 - (f + 1) = j by omega, List.replicate_succ, Int.toNat_natCast, Nat.zero_add]
      show List.set (_ ++ zeroT :: List.replicate j zeroT) f _ = _
      rw [set_mid (by rw [List.length_map, List.length_range]), range_map_succ, List.append_assoc]
      exact congrArg (fun z => (List.range f).map (tileF n s) ++ z :: List.replicate j zeroT) (tileF_eq hm rfl)
  · have e1 : f = 6 := by have e1 : ¬ (f : Int) < 6 := of_decide_eq_false e1; omega
    subst e1
    show _ = ((tilesT n s).1, (tilesT n s).2, ())
    unfold tilesT; rw [if_neg (by rw [e]; decide)]; rfl
end Go.Lift

/- Own work. -/
set_option linter.unusedVariables false
set_option linter.unusedSimpArgs false
namespace Go.Lift
def Fx_state_between := fun (a b c : Nat) (post : Bool × Unit → Prop) => ∀ (a_1 : Bool), a_1 = fcmp Go.BinOp.geq (Go.FloatKind.f64.format.order a b) → Br a_1 (∀ (a_2 : Bool), a_2 =
  fcmp Go.BinOp.leq (Go.FloatKind.f64.format.order a c) → Br a_2 (∃ (h : True), ∀ (a_3 : Bool), a_3 = ((bitsR a).fst != (9223372036854775808 : Int)) → post (a_3, ())) (post
  (Bool.false, ()))) (post (Bool.false, ()))
theorem Lx_state_between (a : Nat) (b : Nat) (c : Nat) (h : W3 a b c) : Fx_state_between  a b c (fun r => r = betweenR a b c) := by
  have nz : ∀ x : Nat, ((x : Int) != (9223372036854775808 : Int)) = decide (x ≠ 9223372036854775808) := by
    intro x
    show (!((x : Int) == ((9223372036854775808 : Nat) : Int))) = _
    rw [beq_nat]
    by_cases q : x = 9223372036854775808
    · rw [decide_eq_true q, decide_eq_false (by simpa using q)]; rfl
    · rw [decide_eq_false q, decide_eq_true q]; rfl
  rintro _ rfl
  refine Br.intro (fun e => ?_) fun e => ?_
  · rintro _ rfl
    refine Br.intro (fun f => ?_) fun f => ?_
    · refine ⟨trivial, ?_⟩
      rintro _ rfl
      refine congrArg r1 ?_
      show ((a : Int) != (9223372036854775808 : Int)) = betweenF a b c
      unfold betweenF
      rw [nz, show fcmp .geq (Ieee.double.order a b) = true from e, show fcmp .leq (Ieee.double.order a c) = true from f]; rfl
    · exact congrArg r1 (by unfold betweenF; rw [show fcmp .leq (Ieee.double.order a c) = false from f, Bool.and_false]; rfl)
  · exact congrArg r1 (by unfold betweenF; rw [show fcmp .geq (Ieee.double.order a b) = false from e]; rfl)
def Fx_state_floats := fun (ty47 : Nat) (a : List Nat) (b : Nat) (post : Int × Unit → Prop) => HIs [HObj.box Md.rw ty47 [SV.val (Go.Value.float Go.FloatKind.f64 b)]] [HObj.box Md.rw
  ty47 [SV.val (Go.Value.float Go.FloatKind.f64 b)]] ∧ ∃ (I : Int × Unit → Unit → Prop), ∃ (μ : Int × Unit → Unit → Nat), I ((0 : Int), ()) () ∧ ∀ (x : Int × Unit) (y : Unit), I x y
  → ∀ (a_1 : Bool), a_1 = decide (x.fst < (↑a.length : Int)) → Br a_1 (∃ (h : (0 : Int) ≤ x.fst ∧ x.fst < (↑a.length : Int)), ∃ (h : W3 (a.getD x.fst.toNat (0 : Nat))
  (Go.Op.negFloat Go.FloatKind.f64 b) b), ∀ (a_2 : Bool), a_2 = (betweenR (a.getD x.fst.toNat (0 : Nat)) (Go.Op.negFloat Go.FloatKind.f64 b) b).fst → Br (!a_2) (post (x.fst, ()))
  (HIs [HObj.box Md.rw ty47 [SV.val (Go.Value.float Go.FloatKind.f64 b)]] [HObj.box Md.rw ty47 [SV.val (Go.Value.float Go.FloatKind.f64 b)]] ∧ I (IntKind.i64.wrap (x.fst + (1 :
  Int)), ()) () ∧ μ (IntKind.i64.wrap (x.fst + (1 : Int)), ()) () < μ x y)) (post ((-1 : Int), ()))
theorem Lx_state_floats (ty0 : Nat) (a : List Nat) (b : Nat) (h : WLF a b) (w : KS.wf [.slice (.flt .f64), .flt .f64] (a, b, ())) : Fx_state_floats ty0 a b (fun r => r = floatsR a b) := by
  have hl : a.length ≤ maxN := w.1.1
  unfold maxN at hl
  refine ⟨rfl, fun x _ => ∃ i : Nat, x.1 = i ∧ i ≤ a.length ∧ floatsI a b = firstI (fun x => !betweenF x (negF b) b) i (a.drop i), fun x _ => a.length - x.1.toNat, ⟨0, rfl, by omega, rfl⟩, ?_⟩
  rintro ⟨_, ⟨⟩⟩ _ ⟨i, rfl, hil, hi⟩
  dsimp only
  rintro _ rfl
  refine Br.intro (fun e => ?_) fun e => ?_
  · have e : i < a.length := by have := of_decide_eq_true e; omega
    refine ⟨⟨by omega, by omega⟩, ?_⟩
    rw [Int.toNat_natCast]
    rw [drop_step e 0, firstI_cons] at hi
    refine ⟨⟨h.1 _ (getD_mem e 0), negF_w h.2, h.2⟩, ?_⟩
    rintro _ rfl
    refine Br.intro (fun f => ?_) fun f => ?_
    · refine congrArg r1 ?_
      rw [hi]
      rw [if_pos (show (!betweenF (a.getD i 0) (negF b) b) = true from f)]
    · rw [if_neg (by rw [show (!betweenF (a.getD i 0) (negF b) b) = false from f]; decide)] at hi
      rw [wi_succ e (by omega)]
      exact ⟨rfl, ⟨i + 1, rfl, by omega, hi⟩, by omega⟩
  · have e : ¬ i < a.length := by have := of_decide_eq_false e; omega
    refine congrArg r1 ?_
    rw [hi, List.drop_eq_nil_of_le (by omega)]; rfl
def Fx_state_quanta := fun (ty2 : Nat) (a : List Int) (b : Int) (post : Int × Unit → Prop) => HIs [HObj.box Md.rw ty2 [SV.junk]] [HObj.box Md.rw ty2 [SV.junk]] ∧ ∃ (I : Int × Int ×
  Unit → Unit → Prop), ∃ (μ : Int × Int × Unit → Unit → Nat), I ((0 : Int), b, ()) () ∧ ∀ (x : Int × Int × Unit) (y : Unit), I x y → ∀ (a_1 : Bool), a_1 = decide (x.fst < (↑a.length
  : Int)) → Br a_1 (∃ (h : (0 : Int) ≤ x.fst ∧ x.fst < (↑a.length : Int)), ∀ (a_2 : Bool), a_2 = decide (a.getD x.fst.toNat (0 : Int) < (0 : Int)) → Br a_2 (post (x.fst, ())) (∀
  (a_3 : Bool), a_3 = decide (a.getD x.fst.toNat (0 : Int) > IntKind.i64.wrap ((4503599627370496 : Int) - x.snd.fst)) → Br a_3 (post (x.fst, ())) (HIs [HObj.box Md.rw ty2 [SV.junk]]
  [HObj.box Md.rw ty2 [SV.junk]] ∧ I (IntKind.i64.wrap (x.fst + (1 : Int)), IntKind.i64.wrap (x.snd.fst + a.getD x.fst.toNat (0 : Int)), ()) () ∧ μ (IntKind.i64.wrap (x.fst + (1 :
  Int)), IntKind.i64.wrap (x.snd.fst + a.getD x.fst.toNat (0 : Int)), ()) () < μ x y))) (post ((-1 : Int), ()))
theorem Lx_state_quanta (ty0 : Nat) (a : List Int) (b : Int) (h : WQuanta a b) (w : KS.wf [.slice (.int .i64), .int .i64] (a, b, ())) : Fx_state_quanta ty0 a b (fun r => r = quantaR a b) := by
  have hl : a.length ≤ maxN := w.1.1
  unfold maxN at hl
  obtain ⟨ha, hb0, hb1⟩ := h
  refine ⟨rfl, fun x _ => ∃ i : Nat, x.1 = i ∧ i ≤ a.length ∧ 0 ≤ x.2.1 ∧ x.2.1 ≤ 4503599627370496 ∧ quantaN 0 b a = quantaN i x.2.1 (a.drop i), fun x _ => a.length - x.1.toNat, ⟨0, rfl, by omega, hb0, hb1, rfl⟩, ?_⟩
  rintro ⟨_, s, ⟨⟩⟩ _ ⟨i, rfl, hil, h0, h1, hi⟩
  dsimp only at h0 h1 hi ⊢
  have ws : IntKind.i64.wrap (4503599627370496 - s) = 4503599627370496 - s := wi ⟨by omega, by omega⟩
  rintro _ rfl
  refine Br.intro (fun e => ?_) fun e => ?_
  · have e : i < a.length := by have := of_decide_eq_true e; omega
    refine ⟨⟨by omega, by omega⟩, ?_⟩
    rw [Int.toNat_natCast, ws]
    rw [drop_step e 0, quantaN_cons] at hi
    have hr := ha _ (getD_mem e 0)
    rintro _ rfl
    refine Br.intro (fun f => ?_) fun f => ?_
    · refine congrArg r1 ?_
      rw [hi]
      rw [if_pos (.inl (of_decide_eq_true f))]
    have f := of_decide_eq_false f
    rintro _ rfl
    refine Br.intro (fun g => ?_) fun g => ?_
    · refine congrArg r1 ?_
      rw [hi]
      rw [if_pos (.inr (of_decide_eq_true g))]
    · have g := of_decide_eq_false g
      rw [if_neg (by omega)] at hi
      rw [wi_succ e (by omega), wi (x := s + a.getD i 0) ⟨by omega, by omega⟩]
      exact ⟨rfl, ⟨i + 1, rfl, by omega, by omega, by omega, hi⟩, by omega⟩
  · have e : ¬ i < a.length := by have := of_decide_eq_false e; omega
    refine congrArg r1 ?_
    rw [hi, List.drop_eq_nil_of_le (by omega)]; rfl
def Fx_state_Check := fun (n : Int) (s : List Nat × List Int × List Int × List Nat × Int × Int) (post : Int × Int × Unit → Prop) => ∃ (h : I64 n), Br ((cellsR n).fst == (0 : Int))
  (post ((0 : Int), (10 : Int), ())) (∃ (h : (2 : Int) ≠ (0 : Int)), ∃ (h : (0 : Int) ≤ (0 : Int) ∧ (0 : Int) < (↑(4 : Nat) : Int)), Br ([(↑s.fst.length : Int), (↑s.snd.fst.length :
  Int), (↑s.snd.snd.fst.length : Int), IntKind.i64.wrap ((↑s.snd.snd.snd.fst.length : Int).tdiv (2 : Int))].getD (Int.toNat (0 : Int)) (0 : Int) != (cellsR n).fst) (post ((0 : Int),
  (12 : Int), ())) (∃ (h : (0 : Int) ≤ IntKind.i64.wrap ((0 : Int) + (1 : Int)) ∧ IntKind.i64.wrap ((0 : Int) + (1 : Int)) < (↑(4 : Nat) : Int)), Br ([(↑s.fst.length : Int),
  (↑s.snd.fst.length : Int), (↑s.snd.snd.fst.length : Int), IntKind.i64.wrap ((↑s.snd.snd.snd.fst.length : Int).tdiv (2 : Int))].getD (IntKind.i64.wrap ((0 : Int) + (1 :
  Int))).toNat (0 : Int) != (cellsR n).fst) (post (IntKind.i64.wrap ((0 : Int) + (1 : Int)), (12 : Int), ())) (∃ (h : (0 : Int) ≤ IntKind.i64.wrap (IntKind.i64.wrap ((0 : Int) + (1
  : Int)) + (1 : Int)) ∧ IntKind.i64.wrap (IntKind.i64.wrap ((0 : Int) + (1 : Int)) + (1 : Int)) < (↑(4 : Nat) : Int)), Br ([(↑s.fst.length : Int), (↑s.snd.fst.length : Int),
  (↑s.snd.snd.fst.length : Int), IntKind.i64.wrap ((↑s.snd.snd.snd.fst.length : Int).tdiv (2 : Int))].getD (IntKind.i64.wrap (IntKind.i64.wrap ((0 : Int) + (1 : Int)) + (1 :
  Int))).toNat (0 : Int) != (cellsR n).fst) (post (IntKind.i64.wrap (IntKind.i64.wrap ((0 : Int) + (1 : Int)) + (1 : Int)), (12 : Int), ())) (∃ (h : (0 : Int) ≤ IntKind.i64.wrap
  (IntKind.i64.wrap (IntKind.i64.wrap ((0 : Int) + (1 : Int)) + (1 : Int)) + (1 : Int)) ∧ IntKind.i64.wrap (IntKind.i64.wrap (IntKind.i64.wrap ((0 : Int) + (1 : Int)) + (1 : Int)) +
  (1 : Int)) < (↑(4 : Nat) : Int)), Br ([(↑s.fst.length : Int), (↑s.snd.fst.length : Int), (↑s.snd.snd.fst.length : Int), IntKind.i64.wrap ((↑s.snd.snd.snd.fst.length : Int).tdiv (2
  : Int))].getD (IntKind.i64.wrap (IntKind.i64.wrap (IntKind.i64.wrap ((0 : Int) + (1 : Int)) + (1 : Int)) + (1 : Int))).toNat (0 : Int) != (cellsR n).fst) (post (IntKind.i64.wrap
  (IntKind.i64.wrap (IntKind.i64.wrap ((0 : Int) + (1 : Int)) + (1 : Int)) + (1 : Int)), (12 : Int), ())) (Br ((↑s.snd.snd.snd.fst.length : Int) != IntKind.i64.wrap ((2 : Int) *
  (cellsR n).fst)) (post (IntKind.i64.wrap (IntKind.i64.wrap (IntKind.i64.wrap ((0 : Int) + (1 : Int)) + (1 : Int)) + (1 : Int)), (12 : Int), ())) (∃ (h : WLF s.fst
  (4697254411347427328 : Nat)), Br (decide ((floatsR s.fst (4697254411347427328 : Nat)).fst ≥ (0 : Int))) (post ((floatsR s.fst (4697254411347427328 : Nat)).fst, (13 : Int), ()))
  (Br (decide (s.snd.snd.snd.snd.fst < (0 : Int))) (post ((0 : Int), (17 : Int), ())) (Br (decide (s.snd.snd.snd.snd.fst > (4503599627370496 : Int))) (post ((0 : Int), (17 : Int),
  ())) (∃ (h : WQuanta s.snd.fst s.snd.snd.snd.snd.fst), Br (decide ((quantaR s.snd.fst s.snd.snd.snd.snd.fst).fst ≥ (0 : Int))) (post ((quantaR s.snd.fst
  s.snd.snd.snd.snd.fst).fst, (14 : Int), ())) (∃ (h : WQuanta s.snd.snd.fst (0 : Int)), Br (decide ((quantaR s.snd.snd.fst (0 : Int)).fst ≥ (0 : Int))) (post ((quantaR
  s.snd.snd.fst (0 : Int)).fst, (15 : Int), ())) (∃ (h : WLF s.snd.snd.snd.fst (4652218415073722368 : Nat)), Br (decide ((floatsR s.snd.snd.snd.fst (4652218415073722368 : Nat)).fst
  ≥ (0 : Int))) (post ((floatsR s.snd.snd.snd.fst (4652218415073722368 : Nat)).fst, (16 : Int), ())) (Br (decide (s.snd.snd.snd.snd.snd < (0 : Int))) (post ((0 : Int), (1 : Int),
  ())) (Br (decide (s.snd.snd.snd.snd.snd > (4611686018427387904 : Int))) (post ((0 : Int), (1 : Int), ())) (post ((0 : Int), (0 : Int), ())))))))))))))))
theorem Lx_state_Check (n : Int) (s : (List Nat) × (List Int) × (List Int) × (List Nat) × Int × Int) (h : WCheck n s) (w : KS.wf [.int .i64, kSea] (n, s, ())) : Fx_state_Check  n s (fun r => r = checkR n s) := by
  obtain ⟨hn, hb, hw, ht, hs, h4, h5⟩ := h
  have l1 : s.1.length ≤ maxN := w.2.1.1.1
  have l2 : s.2.2.2.1.length ≤ maxN := w.2.1.2.2.2.1.1
  unfold maxN at l1 l2
  obtain ⟨c0, c1⟩ := cells_rng n
  have wc : IntKind.i64.wrap (2 * cellsI n) = 2 * cellsI n := wi ⟨by omega, by omega⟩
  have td : (s.2.2.2.1.length : Int).tdiv 2 = (s.2.2.2.1.length : Int) / 2 := Int.tdiv_eq_ediv_of_nonneg (by omega)
  have wd : IntKind.i64.wrap ((s.2.2.2.1.length : Int) / 2) = (s.2.2.2.1.length : Int) / 2 := wi ⟨by omega, by omega⟩
  refine ⟨hn, Br.intro (fun e => ?_) fun e => ?_⟩
  · have e : cellsI n = 0 := eq_of_beq e
    show _ = ((checkI n s).1, (checkI n s).2, ())
    unfold checkI; rw [if_pos e]
  have e0 : ¬ cellsI n = 0 := by intro q; have e : (cellsI n == 0) = false := e; rw [q] at e; cases e
  refine ⟨by decide, ⟨by decide, by decide⟩, Br.intro (fun e => ?_) fun e => ?_⟩
  · have e : (s.1.length : Int) ≠ cellsI n := bne_int.1 e
    show _ = ((checkI n s).1, (checkI n s).2, ())
    unfold checkI; rw [if_neg e0, if_pos e]
  have e1 : (s.1.length : Int) = cellsI n := bne_int.2 e
  refine ⟨⟨by decide, by decide⟩, Br.intro (fun e => ?_) fun e => ?_⟩
  · have e : (s.2.1.length : Int) ≠ cellsI n := bne_int.1 e
    show _ = ((checkI n s).1, (checkI n s).2, ())
    unfold checkI; rw [if_neg e0, if_neg (by omega), if_pos e]; rfl
  have e2 : (s.2.1.length : Int) = cellsI n := bne_int.2 e
  refine ⟨⟨by decide, by decide⟩, Br.intro (fun e => ?_) fun e => ?_⟩
  · have e : (s.2.2.1.length : Int) ≠ cellsI n := bne_int.1 e
    show _ = ((checkI n s).1, (checkI n s).2, ())
    unfold checkI; rw [if_neg e0, if_neg (by omega), if_neg (by omega), if_pos e]; rfl
  have e3 : (s.2.2.1.length : Int) = cellsI n := bne_int.2 e
  have no3 : (s.2.2.2.1.length : Int) ≠ 2 * cellsI n → ((3 : Int), (12 : Int), ()) = checkR n s := by
    intro e
    show _ = ((checkI n s).1, (checkI n s).2, ())
    unfold checkI; rw [if_neg e0, if_neg (by omega), if_neg (by omega), if_neg (by omega), if_pos e]
  refine ⟨⟨by decide, by decide⟩, Br.intro (fun e => ?_) fun e => ?_⟩
  · have e : IntKind.i64.wrap ((s.2.2.2.1.length : Int).tdiv 2) ≠ cellsI n := bne_int.1 e
    rw [td, wd] at e
    exact no3 (by omega)
  refine Br.intro (fun e => ?_) fun e => ?_
  · have e : (s.2.2.2.1.length : Int) ≠ IntKind.i64.wrap (2 * cellsI n) := bne_int.1 e
    rw [wc] at e
    exact no3 e
  have e4 : (s.2.2.2.1.length : Int) = IntKind.i64.wrap (2 * cellsI n) := bne_int.2 e
  rw [wc] at e4
  have base : checkI n s = if 0 ≤ floatsI s.1 4697254411347427328 then (floatsI s.1 4697254411347427328, 13)
    else if s.2.2.2.2.1 < 0 ∨ s.2.2.2.2.1 > 4503599627370496 then (0, 17)
    else if 0 ≤ quantaN 0 s.2.2.2.2.1 s.2.1 then (quantaN 0 s.2.2.2.2.1 s.2.1, 14)
    else if 0 ≤ quantaN 0 0 s.2.2.1 then (quantaN 0 0 s.2.2.1, 15)
    else if 0 ≤ floatsI s.2.2.2.1 4652218415073722368 then (floatsI s.2.2.2.1 4652218415073722368, 16)
    else if s.2.2.2.2.2 < 0 ∨ s.2.2.2.2.2 > 4611686018427387904 then (0, 1)
    else (0, 0) := by
    show (if cellsI n = 0 then _ else _) = _
    rw [if_neg e0, if_neg (by omega), if_neg (by omega), if_neg (by omega), if_neg (by omega)]
  have fin : ∀ p q, checkI n s = (p, q) → (p, q, ()) = checkR n s := by intro p q e; show _ = ((checkI n s).1, (checkI n s).2, ()); rw [e]
  refine ⟨⟨hb, by unfold W64; decide⟩, Br.intro (fun e => fin _ _ ?_) fun e => ?_⟩
  · have e : 0 ≤ floatsI s.1 4697254411347427328 := of_decide_eq_true e
    rw [base, if_pos e]; rfl
  have f1 : ¬ 0 ≤ floatsI s.1 4697254411347427328 := of_decide_eq_false e
  rw [if_neg f1] at base
  refine Br.intro (fun e => fin _ _ ?_) fun e => ?_
  · rw [base, if_pos (.inl (of_decide_eq_true e))]
  have f2 := of_decide_eq_false e
  refine Br.intro (fun e => fin _ _ ?_) fun e => ?_
  · rw [base, if_pos (.inr (of_decide_eq_true e))]
  have f3 := of_decide_eq_false e
  rw [if_neg (by omega)] at base
  refine ⟨⟨hw, by omega, by omega⟩, Br.intro (fun e => fin _ _ ?_) fun e => ?_⟩
  · have e : 0 ≤ quantaN 0 s.2.2.2.2.1 s.2.1 := of_decide_eq_true e
    rw [base, if_pos e]; rfl
  have f4 : ¬ 0 ≤ quantaN 0 s.2.2.2.2.1 s.2.1 := of_decide_eq_false e
  rw [if_neg f4] at base
  refine ⟨⟨ht, by omega, by omega⟩, Br.intro (fun e => fin _ _ ?_) fun e => ?_⟩
  · have e : 0 ≤ quantaN 0 0 s.2.2.1 := of_decide_eq_true e
    rw [base, if_pos e]; rfl
  have f5 : ¬ 0 ≤ quantaN 0 0 s.2.2.1 := of_decide_eq_false e
  rw [if_neg f5] at base
  refine ⟨⟨hs, by unfold W64; decide⟩, Br.intro (fun e => fin _ _ ?_) fun e => ?_⟩
  · have e : 0 ≤ floatsI s.2.2.2.1 4652218415073722368 := of_decide_eq_true e
    rw [base, if_pos e]; rfl
  have f6 : ¬ 0 ≤ floatsI s.2.2.2.1 4652218415073722368 := of_decide_eq_false e
  rw [if_neg f6] at base
  refine Br.intro (fun e => fin _ _ ?_) fun e => ?_
  · rw [base, if_pos (.inl (of_decide_eq_true e))]
  have f7 := of_decide_eq_false e
  refine Br.intro (fun e => fin _ _ ?_) fun e => fin _ _ ?_
  · rw [base, if_pos (.inr (of_decide_eq_true e))]
  have f8 := of_decide_eq_false e
  rw [base, if_neg (by omega)]
end Go.Lift

/- Own work. -/
set_option linter.unusedVariables false
set_option linter.unusedSimpArgs false
namespace Go.Lift
def Fx_raw_From := fun (a : Int) (post : Nat × Unit → Prop) => ∃ (h : True), post ((fromR a).fst, ())
theorem Lx_raw_From (a : Int) : Fx_raw_From  a (fun r => r = fromR a) := by
  exact ⟨trivial, rfl⟩
def Fx_raw_Bits := fun (a : Nat) (post : Int × Unit → Prop) => ∃ (h : True), post ((bitsR a).fst, ())
theorem Lx_raw_Bits (a : Nat) : Fx_raw_Bits  a (fun r => r = bitsR a) := by
  exact ⟨trivial, rfl⟩
def Fx_raw_Same := fun (a b : Nat) (post : Bool × Unit → Prop) => ∃ (h : True), ∃ (h : True), ∀ (a_1 : Bool), a_1 = ((bitsR a).fst == (bitsR b).fst) → post (a_1, ())
theorem Lx_raw_Same (a : Nat) (b : Nat) : Fx_raw_Same  a b (fun r => r = sameR a b) := by
  refine ⟨trivial, trivial, ?_⟩
  rintro _ rfl
  exact congrArg r1 (beq_nat a b)
def Fx_bits_quiet := fun (post : Nat × Unit → Prop) => ∃ (h : True), post ((fromR (9221120237041090561 : Int)).fst, ())
theorem Lx_bits_quiet  : Fx_bits_quiet   (fun r => r = qnR) := by
  exact ⟨trivial, rfl⟩
def Fx_ref01_Quiet := fun (post : Nat × Unit → Prop) => ∃ (h : True), post ((fromR (9221120237041090561 : Int)).fst, ())
theorem Lx_ref01_Quiet  : Fx_ref01_Quiet   (fun r => r = qnR) := by
  exact ⟨trivial, rfl⟩
def Fx_math_Abs := fun (a : Nat) (post : Nat × Unit → Prop) => ∃ (h : True), ∃ (h : True), post ((fromR (Go.bits Go.BinOp.andNot IntKind.u64 (bitsR a).fst (9223372036854775808 :
  Int))).fst, ())
theorem Lx_math_Abs (a : Nat) (h : W64 a) : Fx_math_Abs  a (fun r => r = absR a) := by
  refine ⟨trivial, trivial, ?_⟩
  show r1 (Go.bits .andNot .u64 (a : Int) 9223372036854775808).toNat = _
  rw [andNot_sign h]; rfl
def Fx_math_IsNaN := fun (a : Nat) (post : Bool × Unit → Prop) => ∀ (a_1 : Bool), a_1 = fcmp Go.BinOp.neq (Go.FloatKind.f64.format.order a a) → post (a_1, ())
theorem Lx_math_IsNaN (a : Nat) : Fx_math_IsNaN  a (fun r => r = nanR a) := by
  rintro _ rfl
  exact congrArg r1 (neq_self a)
def Fx_ref01_Mag := fun (a : Nat) (post : Int × Unit → Prop) => ∃ (h : True), ∃ (h : (9223372036854775808 : Int) ≠ (0 : Int)), post ((bitsR a).fst.tmod (9223372036854775808 : Int),
  ())
theorem Lx_ref01_Mag (a : Nat) (h : W64 a) : Fx_ref01_Mag  a (fun r => r = magR a) := by
  refine ⟨trivial, by decide, ?_⟩
  show r1 ((a : Int).tmod 9223372036854775808) = r1 (magI a)
  rw [Int.tmod_eq_emod_of_nonneg (by omega)]; unfold magI rungOf sw; congr 1
def Fx_ref01_None := fun (a : Nat) (post : Bool × Unit → Prop) => ∃ (h : W64 a), ∀ (a_1 : Bool), a_1 = decide ((magR a).fst > (9218868437227405312 : Int)) → post (a_1, ())
theorem Lx_ref01_None (a : Nat) (h : W64 a) : Fx_ref01_None  a (fun r => r = nanR a) := by
  refine ⟨h, ?_⟩
  rintro _ rfl
  refine congrArg r1 ?_
  show decide (((rungOf a : Nat) : Int) > 9218868437227405312) = decide (infR < rungOf a)
  rw [Bool.eq_iff_iff]; simp only [decide_eq_true_eq]; unfold infR; omega
def Fx_ref01_Below := fun (a : Nat) (post : Bool × Unit → Prop) => ∃ (h : True), ∀ (a_1 : Bool), a_1 = decide ((bitsR a).fst ≥ (9223372036854775808 : Int)) → post (a_1, ())
theorem Lx_ref01_Below (a : Nat) (h : W64 a) : Fx_ref01_Below  a (fun r => r = belowR a) := by
  refine ⟨trivial, ?_⟩
  rintro _ rfl
  refine congrArg r1 ?_
  rw [sgn_dec h, Bool.eq_iff_iff]
  simp [bitsR, r1]; omega
def Fx_bits_Canon := fun (a : Nat) (post : Nat × Unit → Prop) => ∀ (a_1 : Bool), a_1 = fcmp Go.BinOp.neq (Go.FloatKind.f64.format.order a a) → Br a_1 (∃ (h : True), post (qnR.fst,
  ())) (∀ (a_2 : Bool), a_2 = fcmp Go.BinOp.eql (Go.FloatKind.f64.format.order a (0 : Nat)) → Br a_2 (post ((0 : Nat), ())) (post (a, ())))
theorem Lx_bits_Canon (a : Nat) : Fx_bits_Canon  a (fun r => r = canonR a) := by
  rintro _ rfl
  refine Br.intro (fun e => ⟨trivial, ?_⟩) fun e => ?_
  · have e : isN a = true := (neq_self a).symm.trans e
    exact congrArg r1 (by unfold canonF; rw [if_pos e]; rfl)
  · have e : isN a = false := (neq_self a).symm.trans e
    rintro _ rfl
    refine Br.intro (fun z => ?_) fun z => ?_
    · have z := (eql_zero a).symm.trans z
      rw [e] at z
      exact congrArg r1 (by unfold canonF; rw [e, if_neg (by simp), if_pos (by simpa using z)])
    · have z := (eql_zero a).symm.trans z
      rw [e] at z
      exact congrArg r1 (by unfold canonF; rw [e, if_neg (by simp), if_neg (by simpa using z)])
def Fx_ref01_Canon := fun (a : Nat) (post : Nat × Unit → Prop) => ∃ (h : W64 a), ∀ (a_1 : Bool), a_1 = (nanR a).fst → Br a_1 (∃ (h : True), post (qnR.fst, ())) (∃ (h : W64 a), ∀
  (a_2 : Bool), a_2 = ((magR a).fst == (0 : Int)) → Br a_2 (∃ (h : True), post ((fromR (0 : Int)).fst, ())) (post (a, ())))
theorem Lx_ref01_Canon (a : Nat) (h : W64 a) : Fx_ref01_Canon  a (fun r => r = canonR a) := by
  refine ⟨h, ?_⟩
  rintro _ rfl
  refine Br.intro (fun e => ⟨trivial, ?_⟩) fun e => ⟨h, ?_⟩
  · have e : isN a = true := e
    exact congrArg r1 (by unfold canonF; rw [if_pos e]; rfl)
  · have e : isN a = false := e
    rintro _ rfl
    refine Br.intro (fun z => ⟨trivial, ?_⟩) fun z => ?_
    · have z : rungOf a = 0 := by simpa [magR, r1, magI] using z
      exact congrArg r1 (by unfold canonF; rw [e, if_neg (by simp), if_pos z]; rfl)
    · have z : rungOf a ≠ 0 := by simpa [magR, r1, magI] using z
      exact congrArg r1 (by unfold canonF; rw [e, if_neg (by simp), if_neg z])
def Fx_sum_quiet := fun (a : Nat) (post : Nat × Unit → Prop) => ∃ (h : True), ∀ (a_1 : Bool), a_1 = (nanR a).fst → Br a_1 (∃ (h : True), post ((fromR (9221120237041090561 :
  Int)).fst, ())) (post (a, ()))
theorem Lx_sum_quiet (a : Nat) : Fx_sum_quiet  a (fun r => r = quietR a) := by
  refine ⟨trivial, ?_⟩
  rintro _ rfl
  refine Br.intro (fun e => ⟨trivial, ?_⟩) fun e => ?_
  · have e : isN a = true := e
    exact congrArg r1 (by unfold quietF; rw [if_pos e]; rfl)
  · have e : isN a = false := e
    exact congrArg r1 (by unfold quietF; rw [e]; rfl)
def Fx_ref05_quieted := fun (a : Nat) (post : Nat × Unit → Prop) => ∃ (h : W64 a), ∀ (a_1 : Bool), a_1 = (nanR a).fst → Br a_1 (∃ (h : True), post (qnR.fst, ())) (post (a, ()))
theorem Lx_ref05_quieted (a : Nat) (h : W64 a) : Fx_ref05_quieted  a (fun r => r = quietR a) := by
  refine ⟨h, ?_⟩
  rintro _ rfl
  refine Br.intro (fun e => ⟨trivial, ?_⟩) fun e => ?_
  · have e : isN a = true := e
    exact congrArg r1 (by unfold quietF; rw [if_pos e]; rfl)
  · have e : isN a = false := e
    exact congrArg r1 (by unfold quietF; rw [e]; rfl)
def Fx_sum_magnitude := fun (a : Nat) (post : Int × Unit → Prop) => ∃ (h : True), ∃ (h : (0 : Int) ≤ (1 : Int)), post (IntKind.u64.wrap ((bitsR a).fst * (2 : Int) ^ Min.min
  (Int.toNat (1 : Int)) IntKind.u64.bits), ())
theorem Lx_sum_magnitude (a : Nat) (h : W64 a) : Fx_sum_magnitude  a (fun r => r = mag2R a) := by
  refine ⟨trivial, by decide, ?_⟩
  refine congrArg r1 ?_
  show IntKind.u64.wrap ((a : Int) * 2 ^ 1) = _
  rw [IntKind.wrap_u64]; unfold mag2 magI rungOf sw; omega
def Fx_bits_place := fun (a : Nat) (post : Int × Unit → Prop) => ∃ (h : True), ∀ (a_1 : Bool), a_1 = decide ((bitsR a).fst ≥ (9223372036854775808 : Int)) → Br a_1 (post (Go.bits
  Go.BinOp.xor IntKind.u64 (if IntKind.u64.signed = Bool.true then (-1 : Int) else IntKind.u64.max) (bitsR a).fst, ())) (post (Go.bits Go.BinOp.or IntKind.u64 (bitsR a).fst
  (9223372036854775808 : Int), ()))
theorem Lx_bits_place (a : Nat) (h : W64 a) : Fx_bits_place  a (fun r => r = placeR a) := by
  refine ⟨trivial, ?_⟩
  rintro _ rfl
  refine Br.intro (fun e => ?_) fun e => ?_
  · have e : 9223372036854775808 ≤ a := by have := of_decide_eq_true e; dsimp only [bitsR, r1] at this; omega
    refine congrArg r1 ?_
    show Go.bits .xor .u64 _ (a : Int) = _
    unfold placeI; rw [if_pos ((sgn_iff h).2 e)]
    exact xor_ones h
  · have e : a < 9223372036854775808 := by have := of_decide_eq_false e; dsimp only [bitsR, r1] at this; omega
    refine congrArg r1 ?_
    show Go.bits .or .u64 (a : Int) 9223372036854775808 = _
    unfold placeI; rw [if_neg (by rw [sgn_iff h]; omega)]
    exact or_sign e
def Fx_cmp_isNaN_uint64 := fun (a : Int) (post : Bool × Unit → Prop) => ∀ (a_1 : Bool), a_1 = (a != a) → post (a_1, ())
theorem Lx_cmp_isNaN_uint64 (a : Int) : Fx_cmp_isNaN_uint64  a (fun r => r = noR a) := by
  rintro _ rfl
  exact congrArg r1 (by simp)
def Fx_cmp_Compare_uint64 := fun (a b : Int) (post : Int × Unit → Prop) => ∃ (h : True), ∀ (a_1 : Bool), a_1 = (noR a).fst → ∃ (h : True), ∀ (a_2 : Bool), a_2 = (noR b).fst → Br a_1
  (Br a_2 (post ((0 : Int), ())) (post ((-1 : Int), ()))) (Br a_2 (post ((1 : Int), ())) (∀ (a_3 : Bool), a_3 = decide (a < b) → Br a_3 (post ((-1 : Int), ())) (∀ (a_4 : Bool), a_4
  = decide (a > b) → Br a_4 (post ((1 : Int), ())) (post ((0 : Int), ())))))
theorem Lx_cmp_Compare_uint64 (a : Int) (b : Int) : Fx_cmp_Compare_uint64  a b (fun r => r = cmpR a b) := by
  refine ⟨trivial, ?_⟩
  rintro _ rfl
  refine ⟨trivial, ?_⟩
  rintro _ rfl
  refine Br.intro (fun e => by cases e) fun _ => Br.intro (fun e => by cases e) fun _ => ?_
  rintro _ rfl
  refine Br.intro (fun e => ?_) fun e => ?_
  · exact congrArg r1 (by unfold cmpI; rw [if_pos (of_decide_eq_true e)])
  · rintro _ rfl
    refine Br.intro (fun f => ?_) fun f => ?_
    · exact congrArg r1 (by unfold cmpI; rw [if_neg (of_decide_eq_false e), if_pos (of_decide_eq_true f)])
    · exact congrArg r1 (by unfold cmpI; rw [if_neg (of_decide_eq_false e), if_neg (of_decide_eq_false f)])
def Fx_bits_Order := fun (a b : Nat) (post : Int × Unit → Prop) => ∃ (h : W64 a), ∃ (h : W64 b), ∃ (h : True), post ((cmpR (placeR a).fst (placeR b).fst).fst, ())
theorem Lx_bits_Order (a : Nat) (b : Nat) (h : W2 a b) : Fx_bits_Order  a b (fun r => r = ordR a b) := by
  exact ⟨h.1, h.2, trivial, rfl⟩
def Fx_cmp_Or_int := fun (a : List Int) (post : Int × Unit → Prop) => HIs [] [] ∧ ∃ (I : Int × Unit → Unit → Prop), ∃ (μ : Int × Unit → Unit → Nat), I ((0 : Int), ()) () ∧ ∀ (x :
  Int × Unit) (y : Unit), I x y → ∀ (a_1 : Bool), a_1 = decide (x.fst < (↑a.length : Int)) → Br a_1 (∃ (h : (0 : Int) ≤ x.fst ∧ x.fst < (↑a.length : Int)), ∀ (a_2 : Bool), a_2 =
  (a.getD x.fst.toNat (0 : Int) != (0 : Int)) → Br a_2 (post (a.getD x.fst.toNat (0 : Int), ())) (HIs [] [] ∧ I (IntKind.i64.wrap (x.fst + (1 : Int)), ()) () ∧ μ (IntKind.i64.wrap
  (x.fst + (1 : Int)), ()) () < μ x y)) (post ((0 : Int), ()))
theorem Lx_cmp_Or_int (a : List Int) (w : KS.wf [.slice (.int .i64)] (a, ())) : Fx_cmp_Or_int  a (fun r => r = orR a) := by
  have hl : a.length ≤ maxN := w.1.1
  unfold maxN at hl
  refine ⟨rfl, fun x _ => ∃ i : Nat, x.1 = i ∧ i ≤ a.length ∧ firstNZ (a.drop i) = firstNZ a, fun x _ => a.length - x.1.toNat, ⟨0, rfl, by omega, rfl⟩, ?_⟩
  rintro ⟨_, ⟨⟩⟩ _ ⟨i, hi, hil, hn⟩
  dsimp only at hi
  subst hi
  rintro _ rfl
  refine Br.intro (fun e => ?_) fun e => ?_
  · have e : i < a.length := by have := of_decide_eq_true e; dsimp only at this; omega
    have hd : a.drop i = a.getD i 0 :: a.drop (i + 1) := by
      rw [List.drop_eq_getElem_cons e, List.getD_eq_getElem?_getD, List.getElem?_eq_getElem e]; rfl
    rw [hd] at hn
    simp only [Int.toNat_natCast]
    refine ⟨⟨by omega, by omega⟩, ?_⟩
    rintro _ rfl
    refine Br.intro (fun z => ?_) fun z => ⟨rfl, ⟨i + 1, ?_, by omega, ?_⟩, ?_⟩
    · have z : a.getD i 0 ≠ 0 := by simpa using z
      refine congrArg r1 ?_
      rw [← hn]; unfold firstNZ; rw [if_pos z]
    · rw [wi ⟨by omega, by omega⟩]; omega
    · have z : a.getD i 0 = 0 := by simpa using z
      rw [← hn, z]; rfl
    · rw [wi ⟨by omega, by omega⟩]; omega
  · have e : a.length ≤ i := by have := of_decide_eq_false e; dsimp only at this; omega
    refine congrArg r1 ?_
    rw [← hn, List.drop_eq_nil_of_le e]; rfl
def Fx_sum_Three_c1 := fun (a b : Nat) (post : Int × Unit → Prop) => ∃ (h : W64 a), ∃ (h : W64 b), ∃ (h : True), ∃ (h : W2 a b), ∃ (h : True), post ((orR [(cmpR (mag2R a).fst (mag2R
  b).fst).fst, (ordR a b).fst]).fst, ())
theorem Lx_sum_Three_c1 (a : Nat) (b : Nat) (h : W2 a b) : Fx_sum_Three_c1  a b (fun r => r = cmpMR a b) := by
  refine ⟨h.1, h.2, trivial, h, trivial, ?_⟩
  refine congrArg r1 ?_
  unfold cmpM
  show firstNZ [cmpI (mag2 a) (mag2 b), ordF a b] = _
  simp only [firstNZ]
  split
  · rfl
  · split
    · rfl
    · rename_i z; simpa using (by simpa using z : ordF a b = 0).symm
def Fx_ref01_Order := fun (a b : Nat) (post : Int × Unit → Prop) => ∃ (h : True), ∃ (h : True), ∀ (a_1 : Bool), a_1 = ((bitsR a).fst == (bitsR b).fst) → Br a_1 (post ((0 : Int),
  ())) (∃ (h : W64 a), ∀ (a_2 : Bool), a_2 = (belowR a).fst → Br a_2 (∃ (h : W64 b), ∀ (a_3 : Bool), a_3 = (belowR b).fst → Br a_3 (∀ (a_4 : Bool), a_4 = decide ((bitsR a).fst >
  (bitsR b).fst) → Br a_4 (post ((-1 : Int), ())) (post ((1 : Int), ()))) (∃ (h : W64 a), ∀ (a_4 : Bool), a_4 = (belowR a).fst → Br a_4 (post ((-1 : Int), ())) (∃ (h : W64 b), ∀
  (a_5 : Bool), a_5 = (belowR b).fst → Br a_5 (post ((1 : Int), ())) (∀ (a_6 : Bool), a_6 = decide ((bitsR a).fst < (bitsR b).fst) → Br a_6 (post ((-1 : Int), ())) (post ((1 : Int),
  ())))))) (∃ (h : W64 a), ∀ (a_3 : Bool), a_3 = (belowR a).fst → Br a_3 (post ((-1 : Int), ())) (∃ (h : W64 b), ∀ (a_4 : Bool), a_4 = (belowR b).fst → Br a_4 (post ((1 : Int), ()))
  (∀ (a_5 : Bool), a_5 = decide ((bitsR a).fst < (bitsR b).fst) → Br a_5 (post ((-1 : Int), ())) (post ((1 : Int), ()))))))
theorem Lx_ref01_Order (a : Nat) (b : Nat) (h : W2 a b) : Fx_ref01_Order  a b (fun r => r = ordR a b) := by
  have hw1 := h.1
  have hw2 := h.2
  refine ⟨trivial, trivial, ?_⟩
  rintro _ rfl
  refine Br.intro (fun e => ?_) fun e => ⟨hw1, ?_⟩
  · have e : ((a : Int) == (b : Int)) = true := e
    exact congrArg r1 (ord_same (by simpa [beq_nat] using e)).symm
  · have e : ((a : Int) == (b : Int)) = false := e
    have e : a ≠ b := by simpa [beq_nat] using e
    have one : sgn b = false → ∀ t : Bool, t = sgn a → Br t ((-1, ()) = ordR a b) (∃ _ : W64 b, ∀ t : Bool, t = sgn b → Br t ((1, ()) = ordR a b) (∀ t : Bool, t = decide ((a : Int) < (b : Int)) → Br t ((-1, ()) = ordR a b) ((1, ()) = ordR a b))) := by
      rintro hb _ rfl
      refine Br.intro (fun f => congrArg r1 (ord_np f hb hw1 hw2).symm) fun f => ⟨hw2, ?_⟩
      rintro _ rfl
      refine Br.intro (fun g => by rw [hb] at g; cases g) fun g => ?_
      rintro _ rfl
      refine Br.intro (fun z => congrArg r1 (ord_pp f g (of_decide_eq_true z)).symm) fun z => congrArg r1 (ord_pp' f g e (by have := of_decide_eq_false z; omega)).symm
    have two : sgn a = false → ∀ t : Bool, t = sgn a → Br t ((-1, ()) = ordR a b) (∃ _ : W64 b, ∀ t : Bool, t = sgn b → Br t ((1, ()) = ordR a b) (∀ t : Bool, t = decide ((a : Int) < (b : Int)) → Br t ((-1, ()) = ordR a b) ((1, ()) = ordR a b))) := by
      rintro hb _ rfl
      refine Br.intro (fun f => by rw [hb] at f; cases f) fun f => ⟨hw2, ?_⟩
      rintro _ rfl
      refine Br.intro (fun g => congrArg r1 (ord_pn f g hw1 hw2).symm) fun g => ?_
      rintro _ rfl
      refine Br.intro (fun z => congrArg r1 (ord_pp f g (of_decide_eq_true z)).symm) fun z => congrArg r1 (ord_pp' f g e (by have := of_decide_eq_false z; omega)).symm
    rintro _ rfl
    refine Br.intro (fun f => ⟨hw2, ?_⟩) fun f => ⟨hw1, two f⟩
    rintro _ rfl
    refine Br.intro (fun g => ?_) fun g => ⟨hw1, one g⟩
    rintro _ rfl
    refine Br.intro (fun z => congrArg r1 (ord_nn f g (of_decide_eq_true z)).symm) fun z => congrArg r1 (ord_nn' f g e (by have := of_decide_eq_false z; dsimp only [bitsR, r1] at this; omega)).symm
def Fx_ref05_ahead := fun (a b : Nat) (post : Bool × Unit → Prop) => ∃ (h : W64 a), ∃ (h : W64 b), ∀ (a_1 : Bool), a_1 = decide ((magR a).fst < (magR b).fst) → Br a_1 (post
  (Bool.true, ())) (∀ (a_2 : Bool), a_2 = ((magR a).fst == (magR b).fst) → Br a_2 (∃ (h : W2 a b), ∀ (a_3 : Bool), a_3 = decide ((ordR a b).fst < (0 : Int)) → post (a_3, ())) (post
  (Bool.false, ())))
theorem Lx_ref05_ahead (a : Nat) (b : Nat) (h : W2 a b) : Fx_ref05_ahead  a b (fun r => r = aheadR a b) := by
  refine ⟨h.1, h.2, ?_⟩
  rintro _ rfl
  refine Br.intro (fun e => ?_) fun e => ?_
  · have e : magI a < magI b := of_decide_eq_true e
    exact congrArg r1 (ahead_lt e).symm
  · have e : ¬ magI a < magI b := of_decide_eq_false e
    rintro _ rfl
    refine Br.intro (fun z => ⟨h, ?_⟩) fun z => ?_
    · have z : (magI a == magI b) = true := z
      rintro _ rfl
      exact congrArg r1 (ahead_eq (by simpa using z)).symm
    · have z : (magI a == magI b) = false := z
      have z : magI a ≠ magI b := by simpa using z
      exact congrArg r1 (ahead_gt (by omega)).symm
def Fx_math_IsInf := fun (a : Nat) (b : Int) (post : Bool × Unit → Prop) => ∀ (a_1 : Bool), a_1 = (b == (0 : Int)) → Br a_1 (∃ (h : W64 a), ∀ (a_2 : Bool), a_2 = fcmp Go.BinOp.gtr
  (Go.FloatKind.f64.format.order (absR a).fst (9218868437227405311 : Nat)) → post (a_2, ())) (∀ (a_2 : Bool), a_2 = decide (b < (0 : Int)) → Br a_2 (∀ (a_3 : Bool), a_3 = fcmp
  Go.BinOp.gtr (Go.FloatKind.f64.format.order (Go.Op.negFloat Go.FloatKind.f64 a) (9218868437227405311 : Nat)) → post (a_3, ())) (∀ (a_3 : Bool), a_3 = fcmp Go.BinOp.gtr
  (Go.FloatKind.f64.format.order a (9218868437227405311 : Nat)) → post (a_3, ())))
theorem Lx_math_IsInf (a : Nat) (b : Int) (h : WI a b) : Fx_math_IsInf  a b (fun r => r = infSR a b) := by
  have h : W64 a := h
  rintro _ rfl
  refine Br.intro (fun e => ⟨h, ?_⟩) fun e => ?_
  · have e : b = 0 := by simpa using e
    rintro _ rfl
    refine congrArg r1 ?_
    show fcmp .gtr (Ieee.double.order (rungOf a) 9218868437227405311) = _
    unfold infS; rw [if_pos e, gt_max]
    have := rung_lt a
    have e1 : rungOf (rungOf a) = rungOf a := rung_lo this
    have e2 : sgn (rungOf a) = false := by rw [sgn_dec (by unfold W64; omega)]; simp; omega
    rw [e1, e2]; simp
  · have e : b ≠ 0 := by simpa using e
    rintro _ rfl
    refine Br.intro (fun f => ?_) fun f => ?_
    · have f : b < 0 := of_decide_eq_true f
      rintro _ rfl
      refine congrArg r1 ?_
      show fcmp .gtr (Ieee.double.order (negF a) 9218868437227405311) = _
      unfold infS; rw [if_neg e, if_pos f, gt_max, (rung_negF h).1, sgn_negF h]; simp
    · have f : ¬ b < 0 := of_decide_eq_false f
      rintro _ rfl
      refine congrArg r1 ?_
      show fcmp .gtr (Ieee.double.order a 9218868437227405311) = _
      unfold infS; rw [if_neg e, if_neg f, gt_max]
def Fx_ref01_Class := fun (a : Nat) (post : Int × Unit → Prop) => ∃ (h : W64 a), ∀ (a_1 : Bool), a_1 = ((magR a).fst == (0 : Int)) → Br a_1 (post ((0 : Int), ())) (∀ (a_2 : Bool),
  a_2 = decide ((magR a).fst < (4503599627370496 : Int)) → Br a_2 (post ((1 : Int), ())) (∀ (a_3 : Bool), a_3 = decide ((magR a).fst < (9218868437227405312 : Int)) → Br a_3 (post
  ((2 : Int), ())) (∀ (a_4 : Bool), a_4 = ((magR a).fst == (9218868437227405312 : Int)) → Br a_4 (post ((3 : Int), ())) (post ((4 : Int), ())))))
theorem Lx_ref01_Class (a : Nat) (h : W64 a) : Fx_ref01_Class  a (fun r => r = classR a) := by
  refine ⟨h, ?_⟩
  generalize hm : (magR a).fst = m
  have hm : magI a = m := hm
  rintro _ rfl
  refine Br.intro (fun e => by subst hm; exact congrArg r1 (class_0 e).symm) fun e => ?_
  have e2 : rungOf a ≠ 0 := by subst hm; exact class_nz e
  clear e
  rintro _ rfl
  refine Br.intro (fun f => by subst hm; exact congrArg r1 (class_1 e2 f).symm) fun f => ?_
  rintro _ rfl
  refine Br.intro (fun g => by subst hm; exact congrArg r1 (class_2 e2 f g).symm) fun g => ?_
  rintro _ rfl
  exact Br.intro (fun k => by subst hm; exact congrArg r1 (class_3 e2 f g k).symm) fun k => by subst hm; exact congrArg r1 (class_4 e2 f g k).symm
end Go.Lift

/- Functions of Go's library that have no body: their contracts. Own work. -/
set_option linter.unusedVariables false
set_option linter.unusedSimpArgs false
namespace Go.Lift

theorem ResRep.one {w w' : World} {k : K} {x : k.T} {v : Value} {ok : Nat → Prop} (h : ∀ fr, KRep w' fr k x v) : ResRep w w' ok [.snap k] (x, ()) v :=
  ⟨[v], [], rfl, fun i j b h => by simp at h, v, [], [], [], rfl, rfl, ⟨rfl, h _⟩, rfl, rfl⟩

section
variable {P : Program} {G : Globs} {f : FuncId} {fn : Func} (hf : P.funcs[f]? = some fn) (hname : (fn.name == "runtime.NumGoroutine") = false) (hb : fn.body.isNone = true) (hn : Extern.findNext fn = none)
include hf hname hb hn

theorem ext_bits64 (he : Extern.find fn = some Extern.MathFloatBits.float64bits) : (Con.det [.flt .f64] [.snap (.int .u64)] (fun _ => True) (fun x => bitsR x.1)).holds P G f := by
  have main : ∀ (w : World) (ok : Nat → Prop) (b : Nat) (vs : List Value), vs = [.float .f64 b] → CallSpec P f vs.toArray w fun v w' => Grows w w' ∧ ResRep w w' ok [.snap (.int .u64)] (bitsR b) v := by
    rintro w ok b _ rfl
    refine .inl ⟨.int .u64 b, w, ?_, Grows.refl w, ResRep.one fun _ => rfl⟩
    rw [run_callFunc_extern hf hname hb hn he]; rfl
  rintro w ok _ ⟨b, ⟨⟩⟩ vs ⟨v, r, rfl, h1, rfl⟩ _ _
  exact main w ok b _ h1

theorem ext_from64 (he : Extern.find fn = some Extern.MathFloatBits.float64frombits) : (Con.det [.int .u64] [.snap (.flt .f64)] (fun _ => True) (fun x => fromR x.1)).holds P G f := by
  have main : ∀ (w : World) (ok : Nat → Prop) (b : Int) (vs : List Value), vs = [.int .u64 b] → CallSpec P f vs.toArray w fun v w' => Grows w w' ∧ ResRep w w' ok [.snap (.flt .f64)] (fromR b) v := by
    rintro w ok b _ rfl
    refine .inl ⟨.float .f64 b.toNat, w, ?_, Grows.refl w, ResRep.one fun _ => rfl⟩
    rw [run_callFunc_extern hf hname hb hn he]; rfl
  rintro w ok _ ⟨b, ⟨⟩⟩ vs ⟨v, r, rfl, h1, rfl⟩ _ _
  exact main w ok b _ h1

theorem ext_sqrt (he : Extern.find fn = some Extern.MathSqrt.sqrt) {ne} : (Con.rel [.flt .f64] [.snap (.flt .f64)] (fun _ => True) (fun x r => sqrtP x.1 r) ne).holds P G f := by
  have main : ∀ (w : World) (ok : Nat → Prop) (b : Nat) (vs : List Value), vs = [.float .f64 b] → CallSpec P f vs.toArray w fun v w' => ∃ r : RS [.snap (.flt .f64)], sqrtP b r ∧ Grows w w' ∧ ResRep w w' ok [.snap (.flt .f64)] r v := by
    rintro w ok b _ rfl
    have e : Extern.MathSqrt.sqrt [Value.float .f64 b].toArray = (match FloatKind.f64.format.sqrt b with
      | some r => pure (.float .f64 r)
      | none => do pure (.float .f64 (← choose (.nanBits .f64 b b)))) := rfl
    have key : ∀ (r : Nat) (w' : World), FRes .f64 (FloatKind.f64.format.sqrt b) r → Grows w w' → (Extern.MathSqrt.sqrt [Value.float .f64 b].toArray).run P w = .ok (.float .f64 r) w' →
        CallSpec P f [Value.float .f64 b].toArray w fun v w' => ∃ r : RS [.snap (.flt .f64)], sqrtP b r ∧ Grows w w' ∧ ResRep w w' ok [.snap (.flt .f64)] r v := by
      intro r w' hr hg hrun
      refine .inl ⟨.float .f64 r, w', ?_, (r, ()), fsqrt hr, hg, ResRep.one fun _ => rfl⟩
      rw [run_callFunc_extern hf hname hb hn he, hrun]; rfl
    cases hs : FloatKind.f64.format.sqrt b with
    | some r => exact key r w (by rw [hs]; rfl) (Grows.refl w) (by rw [e, hs]; rfl)
    | none =>
      refine key ((Question.nanBits .f64 b b).cut (w.tape w.drawn (.nanBits .f64 b b))) w.drew (by rw [hs]; exact nan_cut _ _ _ _) (Grows.drew w) ?_
      have hq : (Question.nanBits .f64 b b).forced = false := rfl
      rw [e, hs]
      simp [hq]
  rintro w ok _ ⟨b, ⟨⟩⟩ vs ⟨v, r, rfl, h1, rfl⟩ _ _
  exact main w ok b _ h1
end
end Go.Lift

/- More functions of Go's library that have no body: their contracts. Own work. -/
set_option linter.unusedVariables false
set_option linter.unusedSimpArgs false
namespace Go.Lift
section
variable {P : Program} {G : Globs} {f : FuncId} {fn : Func} (hf : P.funcs[f]? = some fn) (hname : (fn.name == "runtime.NumGoroutine") = false) (hb : fn.body.isNone = true) (hn : Extern.findNext fn = none)
include hf hname hb hn

theorem ext_bits32 (he : Extern.find fn = some Extern.MathFloatBits.float32bits) : (Con.det [.flt .f32] [.snap (.int .u32)] (fun _ => True) (fun x => bits32R x.1)).holds P G f := by
  have main : ∀ (w : World) (ok : Nat → Prop) (b : Nat) (vs : List Value), vs = [.float .f32 b] → CallSpec P f vs.toArray w fun v w' => Grows w w' ∧ ResRep w w' ok [.snap (.int .u32)] (bits32R b) v := by
    rintro w ok b _ rfl
    refine .inl ⟨.int .u32 b, w, ?_, Grows.refl w, ResRep.one fun _ => rfl⟩
    rw [run_callFunc_extern hf hname hb hn he]; rfl
  rintro w ok _ ⟨b, ⟨⟩⟩ vs ⟨v, r, rfl, h1, rfl⟩ _ _
  exact main w ok b _ h1

theorem ext_from32 (he : Extern.find fn = some Extern.MathFloatBits.float32frombits) : (Con.det [.int .u32] [.snap (.flt .f32)] (fun _ => True) (fun x => fbits32R x.1)).holds P G f := by
  have main : ∀ (w : World) (ok : Nat → Prop) (b : Int) (vs : List Value), vs = [.int .u32 b] → CallSpec P f vs.toArray w fun v w' => Grows w w' ∧ ResRep w w' ok [.snap (.flt .f32)] (fbits32R b) v := by
    rintro w ok b _ rfl
    refine .inl ⟨.float .f32 b.toNat, w, ?_, Grows.refl w, ResRep.one fun _ => rfl⟩
    rw [run_callFunc_extern hf hname hb hn he]; rfl
  rintro w ok _ ⟨b, ⟨⟩⟩ vs ⟨v, r, rfl, h1, rfl⟩ _ _
  exact main w ok b _ h1

theorem ext_floor (he : Extern.find fn = some (Extern.MathFloor.toIntegral "math.archFloor" .down)) : (Con.det [.flt .f64] [.snap (.flt .f64)] (fun x => WNum x.1) (fun x => floorR x.1)).holds P G f := by
  have main : ∀ (w : World) (ok : Nat → Prop) (b : Nat) (vs : List Value), vs = [.float .f64 b] → WNum b → CallSpec P f vs.toArray w fun v w' => Grows w w' ∧ ResRep w w' ok [.snap (.flt .f64)] (floorR b) v := by
    rintro w ok b _ rfl hq
    refine .inl ⟨.float .f64 (floorF b), w, ?_, Grows.refl w, ResRep.one fun _ => rfl⟩
    rw [run_callFunc_extern hf hname hb hn he]
    have e : Extern.MathFloor.toIntegral "math.archFloor" .down [Value.float .f64 b].toArray = pure (.float .f64 (floorF b)) := by
      show (match Ieee.double.read b with
        | .nan s t => _
        | d => pure (Value.float .f64 (FloatKind.f64.encode (d.integral .down)))) = _
      have : (Ieee.double.read b).isNaN = false := (isN_eq b).trans hq.2
      unfold floorF
      cases h : Ieee.double.read b with
      | nan s t => rw [h] at this; cases this
      | number s m e => rfl
      | infinity s => rfl
    rw [e]; rfl
  rintro w ok _ ⟨b, ⟨⟩⟩ vs ⟨v, r, rfl, h1, rfl⟩ _ hp
  exact main w ok b _ h1 hp
end
end Go.Lift

/- Contracts of functions, of a seat. Own work. -/
set_option linter.unusedVariables false
set_option linter.unusedSimpArgs false
namespace Go.Lift
open Go.Proofs
theorem Zh_math_Float64bits : Zq_math_Float64bits.holds Tryz.prog ZG 45 := by
  refine ext_bits64 (fn := Tryz.f45) Tryz.func45 (by decide) rfl rfl (by kernel_rfl)
theorem Zh_math_Float64frombits : Zq_math_Float64frombits.holds Tryz.prog ZG 95 := by
  refine ext_from64 (fn := Tryz.f95) Tryz.func95 (by decide) rfl rfl (by kernel_rfl)
theorem Zh_math_sqrt : Zq_math_sqrt.holds Tryz.prog ZG 135 := by
  refine ext_sqrt (fn := Tryz.f135) Tryz.func135 (by decide) rfl rfl (by kernel_rfl)
def Zx_raw_From : Cx := ⟨tabOf Ztab, conOf [(95, Zq_math_Float64frombits)], ZG⟩
theorem Zx_raw_From_ok : CxOk Tryz.prog Zx_raw_From := ⟨tabB_sound Ztab_ok, conOf_sound ⟨Zh_math_Float64frombits, trivial⟩⟩
theorem Zat_raw_From : FnAt Tryz.prog 96 Tryz.f96.ntmps Tryz.f96.results.toList (Tryz.f96.body.getD .skip) := ⟨Tryz.f96, Tryz.func96, rfl, rfl, by simp, by decide⟩
theorem Zeq_raw_From (a : Int) (post : Nat × Unit → Prop) : fnEval Zx_raw_From nHn Tryz.f96.ntmps Tryz.f96.results.toList (Tryz.f96.body.getD .skip) [.int .u64] [.snap (.flt .f64)] (a, ()) post = Fx_raw_From  a post := by kernel_rfl
theorem Zh_raw_From : Zq_raw_From.holds Tryz.prog ZG 96 :=
  detP Zx_raw_From_ok Zmixed nHn Zat_raw_From (F := fun x post => Fx_raw_From  x.1 post) (fun x post => Zeq_raw_From x.1 post) fun x _ _ => Lx_raw_From  x.1
def Zx_raw_Bits : Cx := ⟨tabOf Ztab, conOf [(45, Zq_math_Float64bits)], ZG⟩
theorem Zx_raw_Bits_ok : CxOk Tryz.prog Zx_raw_Bits := ⟨tabB_sound Ztab_ok, conOf_sound ⟨Zh_math_Float64bits, trivial⟩⟩
theorem Zat_raw_Bits : FnAt Tryz.prog 94 Tryz.f94.ntmps Tryz.f94.results.toList (Tryz.f94.body.getD .skip) := ⟨Tryz.f94, Tryz.func94, rfl, rfl, by simp, by decide⟩
theorem Zeq_raw_Bits (a : Nat) (post : Int × Unit → Prop) : fnEval Zx_raw_Bits nHn Tryz.f94.ntmps Tryz.f94.results.toList (Tryz.f94.body.getD .skip) [.flt .f64] [.snap (.int .u64)] (a, ()) post = Fx_raw_Bits  a post := by kernel_rfl
theorem Zh_raw_Bits : Zq_raw_Bits.holds Tryz.prog ZG 94 :=
  detP Zx_raw_Bits_ok Zmixed nHn Zat_raw_Bits (F := fun x post => Fx_raw_Bits  x.1 post) (fun x post => Zeq_raw_Bits x.1 post) fun x _ _ => Lx_raw_Bits  x.1
def Zx_raw_Same : Cx := ⟨tabOf Ztab, conOf [(45, Zq_math_Float64bits)], ZG⟩
theorem Zx_raw_Same_ok : CxOk Tryz.prog Zx_raw_Same := ⟨tabB_sound Ztab_ok, conOf_sound ⟨Zh_math_Float64bits, trivial⟩⟩
theorem Zat_raw_Same : FnAt Tryz.prog 61 Tryz.f61.ntmps Tryz.f61.results.toList (Tryz.f61.body.getD .skip) := ⟨Tryz.f61, Tryz.func61, rfl, rfl, by simp, by decide⟩
theorem Zeq_raw_Same (a : Nat) (b : Nat) (post : Bool × Unit → Prop) : fnEval Zx_raw_Same nHn Tryz.f61.ntmps Tryz.f61.results.toList (Tryz.f61.body.getD .skip) [.flt .f64, .flt .f64] [.snap .bool] (a, b, ()) post = Fx_raw_Same  a b post := by kernel_rfl
theorem Zh_raw_Same : Zq_raw_Same.holds Tryz.prog ZG 61 :=
  detP Zx_raw_Same_ok Zmixed nHn Zat_raw_Same (F := fun x post => Fx_raw_Same  x.1 x.2.1 post) (fun x post => Zeq_raw_Same x.1 x.2.1 post) fun x _ _ => Lx_raw_Same  x.1 x.2.1
def Zx_bits_quiet : Cx := ⟨tabOf Ztab, conOf [(95, Zq_math_Float64frombits)], ZG⟩
theorem Zx_bits_quiet_ok : CxOk Tryz.prog Zx_bits_quiet := ⟨tabB_sound Ztab_ok, conOf_sound ⟨Zh_math_Float64frombits, trivial⟩⟩
theorem Zat_bits_quiet : FnAt Tryz.prog 134 Tryz.f134.ntmps Tryz.f134.results.toList (Tryz.f134.body.getD .skip) := ⟨Tryz.f134, Tryz.func134, rfl, rfl, by simp, by decide⟩
theorem Zeq_bits_quiet  (post : Nat × Unit → Prop) : fnEval Zx_bits_quiet nHn Tryz.f134.ntmps Tryz.f134.results.toList (Tryz.f134.body.getD .skip) [] [.snap (.flt .f64)] (()) post = Fx_bits_quiet   post := by kernel_rfl
theorem Zh_bits_quiet : Zq_bits_quiet.holds Tryz.prog ZG 134 :=
  detP Zx_bits_quiet_ok Zmixed nHn Zat_bits_quiet (F := fun x post => Fx_bits_quiet   post) (fun x post => Zeq_bits_quiet  post) fun x _ _ => Lx_bits_quiet  
def Zx_ref01_Quiet : Cx := ⟨tabOf Ztab, conOf [(96, Zq_raw_From)], ZG⟩
theorem Zx_ref01_Quiet_ok : CxOk Tryz.prog Zx_ref01_Quiet := ⟨tabB_sound Ztab_ok, conOf_sound ⟨Zh_raw_From, trivial⟩⟩
theorem Zat_ref01_Quiet : FnAt Tryz.prog 148 Tryz.f148.ntmps Tryz.f148.results.toList (Tryz.f148.body.getD .skip) := ⟨Tryz.f148, Tryz.func148, rfl, rfl, by simp, by decide⟩
theorem Zeq_ref01_Quiet  (post : Nat × Unit → Prop) : fnEval Zx_ref01_Quiet nHn Tryz.f148.ntmps Tryz.f148.results.toList (Tryz.f148.body.getD .skip) [] [.snap (.flt .f64)] (()) post = Fx_ref01_Quiet   post := by kernel_rfl
theorem Zh_ref01_Quiet : Zq_ref01_Quiet.holds Tryz.prog ZG 148 :=
  detP Zx_ref01_Quiet_ok Zmixed nHn Zat_ref01_Quiet (F := fun x post => Fx_ref01_Quiet   post) (fun x post => Zeq_ref01_Quiet  post) fun x _ _ => Lx_ref01_Quiet  
def Zx_math_Abs : Cx := ⟨tabOf Ztab, conOf [(45, Zq_math_Float64bits), (95, Zq_math_Float64frombits)], ZG⟩
theorem Zx_math_Abs_ok : CxOk Tryz.prog Zx_math_Abs := ⟨tabB_sound Ztab_ok, conOf_sound ⟨Zh_math_Float64bits, Zh_math_Float64frombits, trivial⟩⟩
theorem Zat_math_Abs : FnAt Tryz.prog 66 Tryz.f66.ntmps Tryz.f66.results.toList (Tryz.f66.body.getD .skip) := ⟨Tryz.f66, Tryz.func66, rfl, rfl, by simp, by decide⟩
theorem Zeq_math_Abs (a : Nat) (post : Nat × Unit → Prop) : fnEval Zx_math_Abs nHn Tryz.f66.ntmps Tryz.f66.results.toList (Tryz.f66.body.getD .skip) [.flt .f64] [.snap (.flt .f64)] (a, ()) post = Fx_math_Abs  a post := by kernel_rfl
theorem Zh_math_Abs : Zq_math_Abs.holds Tryz.prog ZG 66 :=
  detP Zx_math_Abs_ok Zmixed nHn Zat_math_Abs (F := fun x post => Fx_math_Abs  x.1 post) (fun x post => Zeq_math_Abs x.1 post) fun x h _ => Lx_math_Abs  x.1 h
def Zx_math_IsNaN : Cx := ⟨tabOf Ztab, conOf [], ZG⟩
theorem Zx_math_IsNaN_ok : CxOk Tryz.prog Zx_math_IsNaN := ⟨tabB_sound Ztab_ok, fun f c h => by cases h⟩
theorem Zat_math_IsNaN : FnAt Tryz.prog 67 Tryz.f67.ntmps Tryz.f67.results.toList (Tryz.f67.body.getD .skip) := ⟨Tryz.f67, Tryz.func67, rfl, rfl, by simp, by decide⟩
theorem Zeq_math_IsNaN (a : Nat) (post : Bool × Unit → Prop) : fnEval Zx_math_IsNaN nHn Tryz.f67.ntmps Tryz.f67.results.toList (Tryz.f67.body.getD .skip) [.flt .f64] [.snap .bool] (a, ()) post = Fx_math_IsNaN  a post := by kernel_rfl
theorem Zh_math_IsNaN : Zq_math_IsNaN.holds Tryz.prog ZG 67 :=
  detP Zx_math_IsNaN_ok Zmixed nHn Zat_math_IsNaN (F := fun x post => Fx_math_IsNaN  x.1 post) (fun x post => Zeq_math_IsNaN x.1 post) fun x _ _ => Lx_math_IsNaN  x.1
def Zx_ref01_Mag : Cx := ⟨tabOf Ztab, conOf [(94, Zq_raw_Bits)], ZG⟩
theorem Zx_ref01_Mag_ok : CxOk Tryz.prog Zx_ref01_Mag := ⟨tabB_sound Ztab_ok, conOf_sound ⟨Zh_raw_Bits, trivial⟩⟩
theorem Zat_ref01_Mag : FnAt Tryz.prog 149 Tryz.f149.ntmps Tryz.f149.results.toList (Tryz.f149.body.getD .skip) := ⟨Tryz.f149, Tryz.func149, rfl, rfl, by simp, by decide⟩
theorem Zeq_ref01_Mag (a : Nat) (post : Int × Unit → Prop) : fnEval Zx_ref01_Mag nHn Tryz.f149.ntmps Tryz.f149.results.toList (Tryz.f149.body.getD .skip) [.flt .f64] [.snap (.int .u64)] (a, ()) post = Fx_ref01_Mag  a post := by kernel_rfl
theorem Zh_ref01_Mag : Zq_ref01_Mag.holds Tryz.prog ZG 149 :=
  detP Zx_ref01_Mag_ok Zmixed nHn Zat_ref01_Mag (F := fun x post => Fx_ref01_Mag  x.1 post) (fun x post => Zeq_ref01_Mag x.1 post) fun x h _ => Lx_ref01_Mag  x.1 h
def Zx_ref01_None : Cx := ⟨tabOf Ztab, conOf [(149, Zq_ref01_Mag)], ZG⟩
theorem Zx_ref01_None_ok : CxOk Tryz.prog Zx_ref01_None := ⟨tabB_sound Ztab_ok, conOf_sound ⟨Zh_ref01_Mag, trivial⟩⟩
theorem Zat_ref01_None : FnAt Tryz.prog 147 Tryz.f147.ntmps Tryz.f147.results.toList (Tryz.f147.body.getD .skip) := ⟨Tryz.f147, Tryz.func147, rfl, rfl, by simp, by decide⟩
theorem Zeq_ref01_None (a : Nat) (post : Bool × Unit → Prop) : fnEval Zx_ref01_None nHn Tryz.f147.ntmps Tryz.f147.results.toList (Tryz.f147.body.getD .skip) [.flt .f64] [.snap .bool] (a, ()) post = Fx_ref01_None  a post := by kernel_rfl
theorem Zh_ref01_None : Zq_ref01_None.holds Tryz.prog ZG 147 :=
  detP Zx_ref01_None_ok Zmixed nHn Zat_ref01_None (F := fun x post => Fx_ref01_None  x.1 post) (fun x post => Zeq_ref01_None x.1 post) fun x h _ => Lx_ref01_None  x.1 h
def Zx_ref01_Below : Cx := ⟨tabOf Ztab, conOf [(94, Zq_raw_Bits)], ZG⟩
theorem Zx_ref01_Below_ok : CxOk Tryz.prog Zx_ref01_Below := ⟨tabB_sound Ztab_ok, conOf_sound ⟨Zh_raw_Bits, trivial⟩⟩
theorem Zat_ref01_Below : FnAt Tryz.prog 177 Tryz.f177.ntmps Tryz.f177.results.toList (Tryz.f177.body.getD .skip) := ⟨Tryz.f177, Tryz.func177, rfl, rfl, by simp, by decide⟩
theorem Zeq_ref01_Below (a : Nat) (post : Bool × Unit → Prop) : fnEval Zx_ref01_Below nHn Tryz.f177.ntmps Tryz.f177.results.toList (Tryz.f177.body.getD .skip) [.flt .f64] [.snap .bool] (a, ()) post = Fx_ref01_Below  a post := by kernel_rfl
theorem Zh_ref01_Below : Zq_ref01_Below.holds Tryz.prog ZG 177 :=
  detP Zx_ref01_Below_ok Zmixed nHn Zat_ref01_Below (F := fun x post => Fx_ref01_Below  x.1 post) (fun x post => Zeq_ref01_Below x.1 post) fun x h _ => Lx_ref01_Below  x.1 h
def Zx_bits_Canon : Cx := ⟨tabOf Ztab, conOf [(134, Zq_bits_quiet)], ZG⟩
theorem Zx_bits_Canon_ok : CxOk Tryz.prog Zx_bits_Canon := ⟨tabB_sound Ztab_ok, conOf_sound ⟨Zh_bits_quiet, trivial⟩⟩
theorem Zat_bits_Canon : FnAt Tryz.prog 105 Tryz.f105.ntmps Tryz.f105.results.toList (Tryz.f105.body.getD .skip) := ⟨Tryz.f105, Tryz.func105, rfl, rfl, by simp, by decide⟩
theorem Zeq_bits_Canon (a : Nat) (post : Nat × Unit → Prop) : fnEval Zx_bits_Canon nHn Tryz.f105.ntmps Tryz.f105.results.toList (Tryz.f105.body.getD .skip) [.flt .f64] [.snap (.flt .f64)] (a, ()) post = Fx_bits_Canon  a post := by kernel_rfl
theorem Zh_bits_Canon : Zq_bits_Canon.holds Tryz.prog ZG 105 :=
  detP Zx_bits_Canon_ok Zmixed nHn Zat_bits_Canon (F := fun x post => Fx_bits_Canon  x.1 post) (fun x post => Zeq_bits_Canon x.1 post) fun x _ _ => Lx_bits_Canon  x.1
def Zx_ref01_Canon : Cx := ⟨tabOf Ztab, conOf [(147, Zq_ref01_None), (148, Zq_ref01_Quiet), (149, Zq_ref01_Mag), (96, Zq_raw_From)], ZG⟩
theorem Zx_ref01_Canon_ok : CxOk Tryz.prog Zx_ref01_Canon := ⟨tabB_sound Ztab_ok, conOf_sound ⟨Zh_ref01_None, Zh_ref01_Quiet, Zh_ref01_Mag, Zh_raw_From, trivial⟩⟩
theorem Zat_ref01_Canon : FnAt Tryz.prog 116 Tryz.f116.ntmps Tryz.f116.results.toList (Tryz.f116.body.getD .skip) := ⟨Tryz.f116, Tryz.func116, rfl, rfl, by simp, by decide⟩
theorem Zeq_ref01_Canon (a : Nat) (post : Nat × Unit → Prop) : fnEval Zx_ref01_Canon nHn Tryz.f116.ntmps Tryz.f116.results.toList (Tryz.f116.body.getD .skip) [.flt .f64] [.snap (.flt .f64)] (a, ()) post = Fx_ref01_Canon  a post := by kernel_rfl
theorem Zh_ref01_Canon : Zq_ref01_Canon.holds Tryz.prog ZG 116 :=
  detP Zx_ref01_Canon_ok Zmixed nHn Zat_ref01_Canon (F := fun x post => Fx_ref01_Canon  x.1 post) (fun x post => Zeq_ref01_Canon x.1 post) fun x h _ => Lx_ref01_Canon  x.1 h
def Zx_sum_quiet : Cx := ⟨tabOf Ztab, conOf [(67, Zq_math_IsNaN), (95, Zq_math_Float64frombits)], ZG⟩
theorem Zx_sum_quiet_ok : CxOk Tryz.prog Zx_sum_quiet := ⟨tabB_sound Ztab_ok, conOf_sound ⟨Zh_math_IsNaN, Zh_math_Float64frombits, trivial⟩⟩
theorem Zat_sum_quiet : FnAt Tryz.prog 158 Tryz.f158.ntmps Tryz.f158.results.toList (Tryz.f158.body.getD .skip) := ⟨Tryz.f158, Tryz.func158, rfl, rfl, by simp, by decide⟩
theorem Zeq_sum_quiet (a : Nat) (post : Nat × Unit → Prop) : fnEval Zx_sum_quiet nHn Tryz.f158.ntmps Tryz.f158.results.toList (Tryz.f158.body.getD .skip) [.flt .f64] [.snap (.flt .f64)] (a, ()) post = Fx_sum_quiet  a post := by kernel_rfl
theorem Zh_sum_quiet : Zq_sum_quiet.holds Tryz.prog ZG 158 :=
  detP Zx_sum_quiet_ok Zmixed nHn Zat_sum_quiet (F := fun x post => Fx_sum_quiet  x.1 post) (fun x post => Zeq_sum_quiet x.1 post) fun x _ _ => Lx_sum_quiet  x.1
def Zx_ref05_quieted : Cx := ⟨tabOf Ztab, conOf [(147, Zq_ref01_None), (148, Zq_ref01_Quiet)], ZG⟩
theorem Zx_ref05_quieted_ok : CxOk Tryz.prog Zx_ref05_quieted := ⟨tabB_sound Ztab_ok, conOf_sound ⟨Zh_ref01_None, Zh_ref01_Quiet, trivial⟩⟩
theorem Zat_ref05_quieted : FnAt Tryz.prog 151 Tryz.f151.ntmps Tryz.f151.results.toList (Tryz.f151.body.getD .skip) := ⟨Tryz.f151, Tryz.func151, rfl, rfl, by simp, by decide⟩
theorem Zeq_ref05_quieted (a : Nat) (post : Nat × Unit → Prop) : fnEval Zx_ref05_quieted nHn Tryz.f151.ntmps Tryz.f151.results.toList (Tryz.f151.body.getD .skip) [.flt .f64] [.snap (.flt .f64)] (a, ()) post = Fx_ref05_quieted  a post := by kernel_rfl
theorem Zh_ref05_quieted : Zq_ref05_quieted.holds Tryz.prog ZG 151 :=
  detP Zx_ref05_quieted_ok Zmixed nHn Zat_ref05_quieted (F := fun x post => Fx_ref05_quieted  x.1 post) (fun x post => Zeq_ref05_quieted x.1 post) fun x h _ => Lx_ref05_quieted  x.1 h
def Zx_sum_magnitude : Cx := ⟨tabOf Ztab, conOf [(45, Zq_math_Float64bits)], ZG⟩
theorem Zx_sum_magnitude_ok : CxOk Tryz.prog Zx_sum_magnitude := ⟨tabB_sound Ztab_ok, conOf_sound ⟨Zh_math_Float64bits, trivial⟩⟩
theorem Zat_sum_magnitude : FnAt Tryz.prog 140 Tryz.f140.ntmps Tryz.f140.results.toList (Tryz.f140.body.getD .skip) := ⟨Tryz.f140, Tryz.func140, rfl, rfl, by simp, by decide⟩
theorem Zeq_sum_magnitude (a : Nat) (post : Int × Unit → Prop) : fnEval Zx_sum_magnitude nHn Tryz.f140.ntmps Tryz.f140.results.toList (Tryz.f140.body.getD .skip) [.flt .f64] [.snap (.int .u64)] (a, ()) post = Fx_sum_magnitude  a post := by kernel_rfl
theorem Zh_sum_magnitude : Zq_sum_magnitude.holds Tryz.prog ZG 140 :=
  detP Zx_sum_magnitude_ok Zmixed nHn Zat_sum_magnitude (F := fun x post => Fx_sum_magnitude  x.1 post) (fun x post => Zeq_sum_magnitude x.1 post) fun x h _ => Lx_sum_magnitude  x.1 h
def Zx_bits_place : Cx := ⟨tabOf Ztab, conOf [(45, Zq_math_Float64bits)], ZG⟩
theorem Zx_bits_place_ok : CxOk Tryz.prog Zx_bits_place := ⟨tabB_sound Ztab_ok, conOf_sound ⟨Zh_math_Float64bits, trivial⟩⟩
theorem Zat_bits_place : FnAt Tryz.prog 157 Tryz.f157.ntmps Tryz.f157.results.toList (Tryz.f157.body.getD .skip) := ⟨Tryz.f157, Tryz.func157, rfl, rfl, by simp, by decide⟩
theorem Zeq_bits_place (a : Nat) (post : Int × Unit → Prop) : fnEval Zx_bits_place nHn Tryz.f157.ntmps Tryz.f157.results.toList (Tryz.f157.body.getD .skip) [.flt .f64] [.snap (.int .u64)] (a, ()) post = Fx_bits_place  a post := by kernel_rfl
theorem Zh_bits_place : Zq_bits_place.holds Tryz.prog ZG 157 :=
  detP Zx_bits_place_ok Zmixed nHn Zat_bits_place (F := fun x post => Fx_bits_place  x.1 post) (fun x post => Zeq_bits_place x.1 post) fun x h _ => Lx_bits_place  x.1 h
def Zx_cmp_isNaN_uint64 : Cx := ⟨tabOf Ztab, conOf [], ZG⟩
theorem Zx_cmp_isNaN_uint64_ok : CxOk Tryz.prog Zx_cmp_isNaN_uint64 := ⟨tabB_sound Ztab_ok, fun f c h => by cases h⟩
theorem Zat_cmp_isNaN_uint64 : FnAt Tryz.prog 156 Tryz.f156.ntmps Tryz.f156.results.toList (Tryz.f156.body.getD .skip) := ⟨Tryz.f156, Tryz.func156, rfl, rfl, by simp, by decide⟩
theorem Zeq_cmp_isNaN_uint64 (a : Int) (post : Bool × Unit → Prop) : fnEval Zx_cmp_isNaN_uint64 nHn Tryz.f156.ntmps Tryz.f156.results.toList (Tryz.f156.body.getD .skip) [.int .u64] [.snap .bool] (a, ()) post = Fx_cmp_isNaN_uint64  a post := by kernel_rfl
theorem Zh_cmp_isNaN_uint64 : Zq_cmp_isNaN_uint64.holds Tryz.prog ZG 156 :=
  detP Zx_cmp_isNaN_uint64_ok Zmixed nHn Zat_cmp_isNaN_uint64 (F := fun x post => Fx_cmp_isNaN_uint64  x.1 post) (fun x post => Zeq_cmp_isNaN_uint64 x.1 post) fun x _ _ => Lx_cmp_isNaN_uint64  x.1
def Zx_cmp_Compare_uint64 : Cx := ⟨tabOf Ztab, conOf [(156, Zq_cmp_isNaN_uint64)], ZG⟩
theorem Zx_cmp_Compare_uint64_ok : CxOk Tryz.prog Zx_cmp_Compare_uint64 := ⟨tabB_sound Ztab_ok, conOf_sound ⟨Zh_cmp_isNaN_uint64, trivial⟩⟩
theorem Zat_cmp_Compare_uint64 : FnAt Tryz.prog 139 Tryz.f139.ntmps Tryz.f139.results.toList (Tryz.f139.body.getD .skip) := ⟨Tryz.f139, Tryz.func139, rfl, rfl, by simp, by decide⟩
theorem Zeq_cmp_Compare_uint64 (a : Int) (b : Int) (post : Int × Unit → Prop) : fnEval Zx_cmp_Compare_uint64 nHn Tryz.f139.ntmps Tryz.f139.results.toList (Tryz.f139.body.getD .skip) [.int .u64, .int .u64] [.snap (.int .i64)] (a, b, ()) post = Fx_cmp_Compare_uint64  a b post := by kernel_rfl
theorem Zh_cmp_Compare_uint64 : Zq_cmp_Compare_uint64.holds Tryz.prog ZG 139 :=
  detP Zx_cmp_Compare_uint64_ok Zmixed nHn Zat_cmp_Compare_uint64 (F := fun x post => Fx_cmp_Compare_uint64  x.1 x.2.1 post) (fun x post => Zeq_cmp_Compare_uint64 x.1 x.2.1 post) fun x _ _ => Lx_cmp_Compare_uint64  x.1 x.2.1
def Zx_bits_Order : Cx := ⟨tabOf Ztab, conOf [(157, Zq_bits_place), (139, Zq_cmp_Compare_uint64)], ZG⟩
theorem Zx_bits_Order_ok : CxOk Tryz.prog Zx_bits_Order := ⟨tabB_sound Ztab_ok, conOf_sound ⟨Zh_bits_place, Zh_cmp_Compare_uint64, trivial⟩⟩
theorem Zat_bits_Order : FnAt Tryz.prog 141 Tryz.f141.ntmps Tryz.f141.results.toList (Tryz.f141.body.getD .skip) := ⟨Tryz.f141, Tryz.func141, rfl, rfl, by simp, by decide⟩
theorem Zeq_bits_Order (a : Nat) (b : Nat) (post : Int × Unit → Prop) : fnEval Zx_bits_Order nHn Tryz.f141.ntmps Tryz.f141.results.toList (Tryz.f141.body.getD .skip) [.flt .f64, .flt .f64] [.snap (.int .i64)] (a, b, ()) post = Fx_bits_Order  a b post := by kernel_rfl
theorem Zh_bits_Order : Zq_bits_Order.holds Tryz.prog ZG 141 :=
  detP Zx_bits_Order_ok Zmixed nHn Zat_bits_Order (F := fun x post => Fx_bits_Order  x.1 x.2.1 post) (fun x post => Zeq_bits_Order x.1 x.2.1 post) fun x h _ => Lx_bits_Order  x.1 x.2.1 h
def Zx_cmp_Or_int : Cx := ⟨tabOf Ztab, conOf [], ZG⟩
theorem Zx_cmp_Or_int_ok : CxOk Tryz.prog Zx_cmp_Or_int := ⟨tabB_sound Ztab_ok, fun f c h => by cases h⟩
theorem Zat_cmp_Or_int : FnAt Tryz.prog 138 Tryz.f138.ntmps Tryz.f138.results.toList (Tryz.f138.body.getD .skip) := ⟨Tryz.f138, Tryz.func138, rfl, rfl, by simp, by decide⟩
theorem Zeq_cmp_Or_int (a : List Int) (post : Int × Unit → Prop) : fnEval Zx_cmp_Or_int Zhn_cmp_Or_int Tryz.f138.ntmps Tryz.f138.results.toList (Tryz.f138.body.getD .skip) [.slice (.int .i64)] [.snap (.int .i64)] (a, ()) post = Fx_cmp_Or_int  a post := by kernel_rfl
theorem Zh_cmp_Or_int : Zq_cmp_Or_int.holds Tryz.prog ZG 138 :=
  detP Zx_cmp_Or_int_ok Zmixed Zhn_cmp_Or_int Zat_cmp_Or_int (F := fun x post => Fx_cmp_Or_int  x.1 post) (fun x post => Zeq_cmp_Or_int x.1 post) fun x _ w => Lx_cmp_Or_int  x.1 w
def Zx_sum_Three_c1 : Cx := ⟨tabOf Ztab, conOf [(140, Zq_sum_magnitude), (139, Zq_cmp_Compare_uint64), (141, Zq_bits_Order), (138, Zq_cmp_Or_int)], ZG⟩
theorem Zx_sum_Three_c1_ok : CxOk Tryz.prog Zx_sum_Three_c1 := ⟨tabB_sound Ztab_ok, conOf_sound ⟨Zh_sum_magnitude, Zh_cmp_Compare_uint64, Zh_bits_Order, Zh_cmp_Or_int, trivial⟩⟩
theorem Zat_sum_Three_c1 : FnAt Tryz.prog 137 Tryz.f137.ntmps Tryz.f137.results.toList (Tryz.f137.body.getD .skip) := ⟨Tryz.f137, Tryz.func137, rfl, rfl, by simp, by decide⟩
theorem Zeq_sum_Three_c1 (a : Nat) (b : Nat) (post : Int × Unit → Prop) : fnEval Zx_sum_Three_c1 nHn Tryz.f137.ntmps Tryz.f137.results.toList (Tryz.f137.body.getD .skip) [.flt .f64, .flt .f64] [.snap (.int .i64)] (a, b, ()) post = Fx_sum_Three_c1  a b post := by kernel_rfl
theorem Zh_sum_Three_c1 : Zq_sum_Three_c1.holds Tryz.prog ZG 137 :=
  detP Zx_sum_Three_c1_ok Zmixed nHn Zat_sum_Three_c1 (F := fun x post => Fx_sum_Three_c1  x.1 x.2.1 post) (fun x post => Zeq_sum_Three_c1 x.1 x.2.1 post) fun x h _ => Lx_sum_Three_c1  x.1 x.2.1 h
def Zx_ref01_Order : Cx := ⟨tabOf Ztab, conOf [(94, Zq_raw_Bits), (177, Zq_ref01_Below)], ZG⟩
theorem Zx_ref01_Order_ok : CxOk Tryz.prog Zx_ref01_Order := ⟨tabB_sound Ztab_ok, conOf_sound ⟨Zh_raw_Bits, Zh_ref01_Below, trivial⟩⟩
theorem Zat_ref01_Order : FnAt Tryz.prog 164 Tryz.f164.ntmps Tryz.f164.results.toList (Tryz.f164.body.getD .skip) := ⟨Tryz.f164, Tryz.func164, rfl, rfl, by simp, by decide⟩
theorem Zeq_ref01_Order (a : Nat) (b : Nat) (post : Int × Unit → Prop) : fnEval Zx_ref01_Order nHn Tryz.f164.ntmps Tryz.f164.results.toList (Tryz.f164.body.getD .skip) [.flt .f64, .flt .f64] [.snap (.int .i64)] (a, b, ()) post = Fx_ref01_Order  a b post := by kernel_rfl
theorem Zh_ref01_Order : Zq_ref01_Order.holds Tryz.prog ZG 164 :=
  detP Zx_ref01_Order_ok Zmixed nHn Zat_ref01_Order (F := fun x post => Fx_ref01_Order  x.1 x.2.1 post) (fun x post => Zeq_ref01_Order x.1 x.2.1 post) fun x h _ => Lx_ref01_Order  x.1 x.2.1 h
def Zx_ref05_ahead : Cx := ⟨tabOf Ztab, conOf [(149, Zq_ref01_Mag), (164, Zq_ref01_Order)], ZG⟩
theorem Zx_ref05_ahead_ok : CxOk Tryz.prog Zx_ref05_ahead := ⟨tabB_sound Ztab_ok, conOf_sound ⟨Zh_ref01_Mag, Zh_ref01_Order, trivial⟩⟩
theorem Zat_ref05_ahead : FnAt Tryz.prog 150 Tryz.f150.ntmps Tryz.f150.results.toList (Tryz.f150.body.getD .skip) := ⟨Tryz.f150, Tryz.func150, rfl, rfl, by simp, by decide⟩
theorem Zeq_ref05_ahead (a : Nat) (b : Nat) (post : Bool × Unit → Prop) : fnEval Zx_ref05_ahead nHn Tryz.f150.ntmps Tryz.f150.results.toList (Tryz.f150.body.getD .skip) [.flt .f64, .flt .f64] [.snap .bool] (a, b, ()) post = Fx_ref05_ahead  a b post := by kernel_rfl
theorem Zh_ref05_ahead : Zq_ref05_ahead.holds Tryz.prog ZG 150 :=
  detP Zx_ref05_ahead_ok Zmixed nHn Zat_ref05_ahead (F := fun x post => Fx_ref05_ahead  x.1 x.2.1 post) (fun x post => Zeq_ref05_ahead x.1 x.2.1 post) fun x h _ => Lx_ref05_ahead  x.1 x.2.1 h
def Zx_math_IsInf : Cx := ⟨tabOf Ztab, conOf [(66, Zq_math_Abs)], ZG⟩
theorem Zx_math_IsInf_ok : CxOk Tryz.prog Zx_math_IsInf := ⟨tabB_sound Ztab_ok, conOf_sound ⟨Zh_math_Abs, trivial⟩⟩
theorem Zat_math_IsInf : FnAt Tryz.prog 165 Tryz.f165.ntmps Tryz.f165.results.toList (Tryz.f165.body.getD .skip) := ⟨Tryz.f165, Tryz.func165, rfl, rfl, by simp, by decide⟩
theorem Zeq_math_IsInf (a : Nat) (b : Int) (post : Bool × Unit → Prop) : fnEval Zx_math_IsInf nHn Tryz.f165.ntmps Tryz.f165.results.toList (Tryz.f165.body.getD .skip) [.flt .f64, .int .i64] [.snap .bool] (a, b, ()) post = Fx_math_IsInf  a b post := by kernel_rfl
theorem Zh_math_IsInf : Zq_math_IsInf.holds Tryz.prog ZG 165 :=
  detP Zx_math_IsInf_ok Zmixed nHn Zat_math_IsInf (F := fun x post => Fx_math_IsInf  x.1 x.2.1 post) (fun x post => Zeq_math_IsInf x.1 x.2.1 post) fun x h _ => Lx_math_IsInf  x.1 x.2.1 h
def Zx_ref01_Class : Cx := ⟨tabOf Ztab, conOf [(149, Zq_ref01_Mag)], ZG⟩
theorem Zx_ref01_Class_ok : CxOk Tryz.prog Zx_ref01_Class := ⟨tabB_sound Ztab_ok, conOf_sound ⟨Zh_ref01_Mag, trivial⟩⟩
theorem Zat_ref01_Class : FnAt Tryz.prog 161 Tryz.f161.ntmps Tryz.f161.results.toList (Tryz.f161.body.getD .skip) := ⟨Tryz.f161, Tryz.func161, rfl, rfl, by simp, by decide⟩
theorem Zeq_ref01_Class (a : Nat) (post : Int × Unit → Prop) : fnEval Zx_ref01_Class nHn Tryz.f161.ntmps Tryz.f161.results.toList (Tryz.f161.body.getD .skip) [.flt .f64] [.snap (.int .i64)] (a, ()) post = Fx_ref01_Class  a post := by kernel_rfl
theorem Zh_ref01_Class : Zq_ref01_Class.holds Tryz.prog ZG 161 :=
  detP Zx_ref01_Class_ok Zmixed nHn Zat_ref01_Class (F := fun x post => Fx_ref01_Class  x.1 post) (fun x post => Zeq_ref01_Class x.1 post) fun x h _ => Lx_ref01_Class  x.1 h
end Go.Lift

/- Own work. -/
set_option linter.unusedVariables false
set_option linter.unusedSimpArgs false
namespace Go.Lift
def Fx_cube_good := fun (a : Int) (post : Bool × Unit → Prop) => ∀ (a_1 : Bool), a_1 = decide (a ≥ (1 : Int)) → Br a_1 (∀ (a_2 : Bool), a_2 = decide (a ≤ (32 : Int)) → post (a_2,
  ())) (post (Bool.false, ()))
theorem Lx_cube_good (a : Int) : Fx_cube_good  a (fun r => r = goodCR a) := by
  rintro _ rfl
  refine Br.intro (fun e => ?_) fun e => ?_
  · rintro _ rfl
    refine congrArg r1 ?_
    show _ = goodC a
    unfold goodC
    rw [show decide ((1 : Int) ≤ a) = true from e, Bool.true_and]
  · refine congrArg r1 ?_
    show _ = goodC a
    unfold goodC
    rw [show decide ((1 : Int) ≤ a) = false from e, Bool.false_and]
def Fx_cube_Cells := fun (a : Int) (post : Int × Unit → Prop) => ∃ (h : True), ∀ (a_1 : Bool), a_1 = (goodCR a).fst → Br (!a_1) (post ((0 : Int), ())) (post (IntKind.i64.wrap
  (IntKind.i64.wrap ((6 : Int) * a) * a), ()))
theorem Lx_cube_Cells (a : Int) (h : I64 a) : Fx_cube_Cells  a (fun r => r = cellsR a) := by
  refine ⟨trivial, ?_⟩
  rintro _ rfl
  refine Br.intro (fun e => ?_) fun e => ?_
  · have e : (!goodC a) = true := e
    exact congrArg r1 (cells_bad (by simpa using e)).symm
  · have e : (!goodC a) = false := e
    exact congrArg r1 (cells_wrap (by simpa using e))
def Fx_cube_Place := fun (n c : Int) (post : Int × Int × Int × Bool × Unit → Prop) => ∀ (a : Bool), a = decide (c < (0 : Int)) → Br a (post ((0 : Int), (0 : Int), (0 : Int),
  Bool.false, ())) (∃ (h : I64 n), ∀ (a : Bool), a = decide (c ≥ (cellsR n).fst) → Br a (post ((0 : Int), (0 : Int), (0 : Int), Bool.false, ())) (∃ (h : IntKind.i64.wrap (n * n) ≠
  (0 : Int)), ∃ (h : n ≠ (0 : Int)), ∃ (h : n ≠ (0 : Int)), ∃ (h : n ≠ (0 : Int)), post (IntKind.i64.wrap (c.tdiv (IntKind.i64.wrap (n * n))), c.tmod n, (IntKind.i64.wrap (c.tdiv
  n)).tmod n, Bool.true, ())))
theorem Lx_cube_Place (n : Int) (c : Int) (h : II n c) : Fx_cube_Place  n c (fun r => r = placeR4 n c) := by
  have bad : placeOk n c = false → ((0 : Int), (0 : Int), (0 : Int), false, ()) = placeR4 n c := by
    intro e; unfold placeR4; rw [if_neg (by rw [e]; decide)]
  rintro _ rfl
  refine Br.intro (fun e => ?_) fun e => ?_
  · have e := of_decide_eq_true e
    exact bad (by unfold placeOk; rw [decide_eq_false (by omega), Bool.false_and])
  · have e := of_decide_eq_false e
    refine ⟨h.1, ?_⟩
    rintro _ rfl
    refine Br.intro (fun f => ?_) fun f => ?_
    · have f : cellsI n ≤ c := of_decide_eq_true f
      exact bad (by unfold placeOk; rw [decide_eq_false (p := c < cellsI n) (by omega), Bool.and_false])
    · have f : ¬ c ≥ cellsI n := of_decide_eq_false f
      have ok : placeOk n c = true := by unfold placeOk; rw [decide_eq_true (by omega), decide_eq_true (by omega)]; rfl
      obtain ⟨h1, h2, h3, h4, h5, h6⟩ := place_facts ok
      obtain ⟨r1, r2, r3, r4, r5, r6⟩ := place_rng ok
      have w1 : IntKind.i64.wrap (n * n) = n * n := wi ⟨by omega, by omega⟩
      have d1 : c.tdiv (n * n) = c / (n * n) := Int.tdiv_eq_ediv_of_nonneg h3
      have d2 : c.tdiv n = c / n := Int.tdiv_eq_ediv_of_nonneg h3
      have d3 : 0 ≤ c / n ∧ c / n ≤ c := ⟨Int.ediv_nonneg h3 (by omega), Int.ediv_le_self _ h3⟩
      have w2 : IntKind.i64.wrap (c / n) = c / n := wi ⟨by omega, by have := h.2; unfold I64 at this; omega⟩
      have w3 : IntKind.i64.wrap (c / (n * n)) = c / (n * n) := wi ⟨by omega, by omega⟩
      refine ⟨by rw [w1]; omega, by omega, by omega, by omega, ?_⟩
      rw [w1, d1, w3, d2, w2, Int.tmod_eq_emod_of_nonneg h3, Int.tmod_eq_emod_of_nonneg d3.1]
      unfold placeR4; rw [if_pos ok]
end Go.Lift

/- Contracts of functions, of a seat. Own work. -/
set_option linter.unusedVariables false
set_option linter.unusedSimpArgs false
namespace Go.Lift
open Go.Proofs
def Zx_cube_good : Cx := ⟨tabOf Ztab, conOf [], ZG⟩
theorem Zx_cube_good_ok : CxOk Tryz.prog Zx_cube_good := ⟨tabB_sound Ztab_ok, fun f c h => by cases h⟩
theorem Zat_cube_good : FnAt Tryz.prog 97 Tryz.f97.ntmps Tryz.f97.results.toList (Tryz.f97.body.getD .skip) := ⟨Tryz.f97, Tryz.func97, rfl, rfl, by simp, by decide⟩
theorem Zeq_cube_good (a : Int) (post : Bool × Unit → Prop) : fnEval Zx_cube_good nHn Tryz.f97.ntmps Tryz.f97.results.toList (Tryz.f97.body.getD .skip) [.int .i64] [.snap .bool] (a, ()) post = Fx_cube_good  a post := by kernel_rfl
theorem Zh_cube_good : Zq_cube_good.holds Tryz.prog ZG 97 :=
  detP Zx_cube_good_ok Zmixed nHn Zat_cube_good (F := fun x post => Fx_cube_good  x.1 post) (fun x post => Zeq_cube_good x.1 post) fun x _ _ => Lx_cube_good  x.1
def Zx_cube_Cells : Cx := ⟨tabOf Ztab, conOf [(97, Zq_cube_good)], ZG⟩
theorem Zx_cube_Cells_ok : CxOk Tryz.prog Zx_cube_Cells := ⟨tabB_sound Ztab_ok, conOf_sound ⟨Zh_cube_good, trivial⟩⟩
theorem Zat_cube_Cells : FnAt Tryz.prog 58 Tryz.f58.ntmps Tryz.f58.results.toList (Tryz.f58.body.getD .skip) := ⟨Tryz.f58, Tryz.func58, rfl, rfl, by simp, by decide⟩
theorem Zeq_cube_Cells (a : Int) (post : Int × Unit → Prop) : fnEval Zx_cube_Cells nHn Tryz.f58.ntmps Tryz.f58.results.toList (Tryz.f58.body.getD .skip) [.int .i64] [.snap (.int .i64)] (a, ()) post = Fx_cube_Cells  a post := by kernel_rfl
theorem Zh_cube_Cells : Zq_cube_Cells.holds Tryz.prog ZG 58 :=
  detP Zx_cube_Cells_ok Zmixed nHn Zat_cube_Cells (F := fun x post => Fx_cube_Cells  x.1 post) (fun x post => Zeq_cube_Cells x.1 post) fun x h _ => Lx_cube_Cells  x.1 h
def Zx_cube_Place : Cx := ⟨tabOf Ztab, conOf [(58, Zq_cube_Cells)], ZG⟩
theorem Zx_cube_Place_ok : CxOk Tryz.prog Zx_cube_Place := ⟨tabB_sound Ztab_ok, conOf_sound ⟨Zh_cube_Cells, trivial⟩⟩
theorem Zat_cube_Place : FnAt Tryz.prog 103 Tryz.f103.ntmps Tryz.f103.results.toList (Tryz.f103.body.getD .skip) := ⟨Tryz.f103, Tryz.func103, rfl, rfl, by simp, by decide⟩
theorem Zeq_cube_Place (n : Int) (c : Int) (post : Int × Int × Int × Bool × Unit → Prop) : fnEval Zx_cube_Place nHn Tryz.f103.ntmps Tryz.f103.results.toList (Tryz.f103.body.getD .skip) [.int .i64, .int .i64] [.snap (.int .i64), .snap (.int .i64), .snap (.int .i64), .snap .bool] (n, c, ()) post = Fx_cube_Place  n c post := by kernel_rfl
theorem Zh_cube_Place : Zq_cube_Place.holds Tryz.prog ZG 103 :=
  detP Zx_cube_Place_ok Zmixed nHn Zat_cube_Place (F := fun x post => Fx_cube_Place  x.1 x.2.1 post) (fun x post => Zeq_cube_Place x.1 x.2.1 post) fun x h _ => Lx_cube_Place  x.1 x.2.1 h
end Go.Lift

/- Contracts of functions, of a seat. Own work. -/
set_option linter.unusedVariables false
set_option linter.unusedSimpArgs false
namespace Go.Lift
open Go.Proofs
def Zx_state_between : Cx := ⟨tabOf Ztab, conOf [(45, Zq_math_Float64bits)], ZG⟩
theorem Zx_state_between_ok : CxOk Tryz.prog Zx_state_between := ⟨tabB_sound Ztab_ok, conOf_sound ⟨Zh_math_Float64bits, trivial⟩⟩
theorem Zat_state_between : FnAt Tryz.prog 100 Tryz.f100.ntmps Tryz.f100.results.toList (Tryz.f100.body.getD .skip) := ⟨Tryz.f100, Tryz.func100, rfl, rfl, by simp, by decide⟩
theorem Zeq_state_between (a : Nat) (b : Nat) (c : Nat) (post : Bool × Unit → Prop) : fnEval Zx_state_between nHn Tryz.f100.ntmps Tryz.f100.results.toList (Tryz.f100.body.getD .skip) [.flt .f64, .flt .f64, .flt .f64] [.snap .bool] (a, b, c, ()) post = Fx_state_between  a b c post := by kernel_rfl
theorem Zh_state_between : Zq_state_between.holds Tryz.prog ZG 100 :=
  detP Zx_state_between_ok Zmixed nHn Zat_state_between (F := fun x post => Fx_state_between  x.1 x.2.1 x.2.2.1 post) (fun x post => Zeq_state_between x.1 x.2.1 x.2.2.1 post) fun x h _ => Lx_state_between  x.1 x.2.1 x.2.2.1 h
def Zx_state_floats : Cx := ⟨tabOf Ztab, conOf [(100, Zq_state_between)], ZG⟩
theorem Zx_state_floats_ok : CxOk Tryz.prog Zx_state_floats := ⟨tabB_sound Ztab_ok, conOf_sound ⟨Zh_state_between, trivial⟩⟩
theorem Zat_state_floats : FnAt Tryz.prog 59 Tryz.f59.ntmps Tryz.f59.results.toList (Tryz.f59.body.getD .skip) := ⟨Tryz.f59, Tryz.func59, rfl, rfl, by simp, by decide⟩
theorem Zeq_state_floats (a : List Nat) (b : Nat) (post : Int × Unit → Prop) : fnEvalI Zx_state_floats Zhn_state_floats (callLvl Zx_state_floats Zfns_idxF 6) Tryz.f59.ntmps Tryz.f59.results.toList (Tryz.f59.body.getD .skip) [.slice (.flt .f64), .flt .f64] [.snap (.int .i64)] (a, b, ()) post = Fx_state_floats 53 a b post := by kernel_rfl
theorem Zh_state_floats : Zq_state_floats.holds Tryz.prog ZG 59 :=
  detPI Zx_state_floats_ok Zmixed Zhn_state_floats (callLvl_ok Zx_state_floats_ok Zmixed Zfns_idxF_ok 6) Zat_state_floats (F := fun x post => Fx_state_floats 53 x.1 x.2.1 post) (fun x post => Zeq_state_floats x.1 x.2.1 post) fun x h w => Lx_state_floats 53 x.1 x.2.1 h w
def Zx_state_quanta : Cx := ⟨tabOf Ztab, conOf [], ZG⟩
theorem Zx_state_quanta_ok : CxOk Tryz.prog Zx_state_quanta := ⟨tabB_sound Ztab_ok, fun f c h => by cases h⟩
theorem Zat_state_quanta : FnAt Tryz.prog 60 Tryz.f60.ntmps Tryz.f60.results.toList (Tryz.f60.body.getD .skip) := ⟨Tryz.f60, Tryz.func60, rfl, rfl, by simp, by decide⟩
theorem Zeq_state_quanta (a : List Int) (b : Int) (post : Int × Unit → Prop) : fnEvalI Zx_state_quanta Zhn_state_quanta (callLvl Zx_state_quanta Zfns_idxI 6) Tryz.f60.ntmps Tryz.f60.results.toList (Tryz.f60.body.getD .skip) [.slice (.int .i64), .int .i64] [.snap (.int .i64)] (a, b, ()) post = Fx_state_quanta 2 a b post := by kernel_rfl
theorem Zh_state_quanta : Zq_state_quanta.holds Tryz.prog ZG 60 :=
  detPI Zx_state_quanta_ok Zmixed Zhn_state_quanta (callLvl_ok Zx_state_quanta_ok Zmixed Zfns_idxI_ok 6) Zat_state_quanta (F := fun x post => Fx_state_quanta 2 x.1 x.2.1 post) (fun x post => Zeq_state_quanta x.1 x.2.1 post) fun x h w => Lx_state_quanta 2 x.1 x.2.1 h w
def Zx_state_Check : Cx := ⟨tabOf Ztab, conOf [(58, Zq_cube_Cells), (59, Zq_state_floats), (60, Zq_state_quanta)], ZG⟩
theorem Zx_state_Check_ok : CxOk Tryz.prog Zx_state_Check := ⟨tabB_sound Ztab_ok, conOf_sound ⟨Zh_cube_Cells, Zh_state_floats, Zh_state_quanta, trivial⟩⟩
theorem Zat_state_Check : FnAt Tryz.prog 24 Tryz.f24.ntmps Tryz.f24.results.toList (Tryz.f24.body.getD .skip) := ⟨Tryz.f24, Tryz.func24, rfl, rfl, by simp, by decide⟩
theorem Zeq_state_Check (n : Int) (s : (List Nat) × (List Int) × (List Int) × (List Nat) × Int × Int) (post : Int × Int × Unit → Prop) : fnEval Zx_state_Check Zhn_state_Check Tryz.f24.ntmps Tryz.f24.results.toList (Tryz.f24.body.getD .skip) [.int .i64, kSea] [.snap (.int .i64), .snap (.int .i64)] (n, s, ()) post = Fx_state_Check  n s post := by kernel_rfl
theorem Zh_state_Check : Zq_state_Check.holds Tryz.prog ZG 24 :=
  detP Zx_state_Check_ok Zmixed Zhn_state_Check Zat_state_Check (F := fun x post => Fx_state_Check  x.1 x.2.1 post) (fun x post => Zeq_state_Check x.1 x.2.1 post) fun x h w => Lx_state_Check  x.1 x.2.1 h w
end Go.Lift

/- Own work. -/
set_option linter.unusedVariables false
set_option linter.unusedSimpArgs false
namespace Go.Lift
def Fx_geom_ratio := fun (a b : Int) (post : Nat × Unit → Prop) => ∀ (a_1 : Nat), FRes Go.FloatKind.f64 (Go.FloatKind.f64.format.div (Go.FloatKind.f64.nearest a)
  (Go.FloatKind.f64.nearest b)) a_1 → post (a_1, ())
theorem Lx_geom_ratio (a : Int) (b : Int) (h : WRatio a b) : Fx_geom_ratio  a b (fun r => r = ratioR a b) := by
  intro r hr
  exact congrArg r1 (div_ofI h.1 h.2.1 h.2.2 hr)
def Fx_geom_point := fun (ty72 ty98 : Nat) (f : Int) (s t : Nat) (post : (Nat × Nat × Nat) × Unit → Prop) => ∃ (post_1 : Unit → List Nat × Unit → Prop), (∃ (h : (0 : Int) ≤ (0 :
  Int) ∧ (0 : Int) < (↑(3 : Nat) : Int)), ∃ (h : (0 : Int) ≤ f ∧ f < (↑(6 : Nat) : Int)), ∃ (h : (0 : Int) ≤ (0 : Int) ∧ (0 : Int) < (↑(3 : Nat) : Int)), ∃ (h : (0 : Int) ≤ (0 :
  Int) ∧ (0 : Int) < (↑(3 : Nat) : Int)), Br (List.getD (List.getD (framesL.getD f.toNat (K.arr (3 : Nat) (K.arr (3 : Nat) (K.int IntKind.i64))).dflt) (Int.toNat (0 : Int)) (K.arr
  (3 : Nat) (K.int IntKind.i64)).dflt) (Int.toNat (0 : Int)) (0 : Int) == (1 : Int)) (∃ (h : True), ∃ (h : (0 : Int) ≤ (0 : Int) ∧ (0 : Int) < (↑(3 : Nat) : Int) ∧ (3 : Nat) ≤
  (List.replicate (3 : Nat) (0 : Nat)).length), HIs [HObj.box Md.rw ty72 [SV.val (Go.Value.float Go.FloatKind.f64 (0 : Nat)), SV.val (Go.Value.float Go.FloatKind.f64 (0 : Nat)),
  SV.val (Go.Value.float Go.FloatKind.f64 (0 : Nat))], HObj.row Md.rw ty98 (K.flt Go.FloatKind.f64) ((List.replicate (3 : Nat) (0 : Nat)).set (Int.toNat (0 : Int)) (canonR
  ([(4607182418800017408 : Nat), s, t].getD (Int.toNat (0 : Int)) (0 : Nat))).fst)] [HObj.box Md.rw ty72 [SV.val (Go.Value.float Go.FloatKind.f64 (0 : Nat)), SV.val (Go.Value.float
  Go.FloatKind.f64 (0 : Nat)), SV.val (Go.Value.float Go.FloatKind.f64 (0 : Nat))], HObj.row Md.rw ty98 (K.flt Go.FloatKind.f64) ((List.replicate (3 : Nat) (0 : Nat)).set (Int.toNat
  (0 : Int)) (canonR ([(4607182418800017408 : Nat), s, t].getD (Int.toNat (0 : Int)) (0 : Nat))).fst)] ∧ post_1 () ((List.replicate (3 : Nat) (0 : Nat)).set (Int.toNat (0 : Int))
  (canonR ([(4607182418800017408 : Nat), s, t].getD (Int.toNat (0 : Int)) (0 : Nat))).fst, ())) (Br (List.getD (List.getD (framesL.getD f.toNat (K.arr (3 : Nat) (K.arr (3 : Nat)
  (K.int IntKind.i64))).dflt) (Int.toNat (0 : Int)) (K.arr (3 : Nat) (K.int IntKind.i64)).dflt) (Int.toNat (0 : Int)) (0 : Int) == (-1 : Int)) (∃ (h : True), ∃ (h : (0 : Int) ≤ (0 :
  Int) ∧ (0 : Int) < (↑(3 : Nat) : Int) ∧ (3 : Nat) ≤ (List.replicate (3 : Nat) (0 : Nat)).length), HIs [HObj.box Md.rw ty72 [SV.val (Go.Value.float Go.FloatKind.f64 (0 : Nat)),
  SV.val (Go.Value.float Go.FloatKind.f64 (0 : Nat)), SV.val (Go.Value.float Go.FloatKind.f64 (0 : Nat))], HObj.row Md.rw ty98 (K.flt Go.FloatKind.f64) ((List.replicate (3 : Nat) (0
  : Nat)).set (Int.toNat (0 : Int)) (canonR (Go.Op.negFloat Go.FloatKind.f64 ([(4607182418800017408 : Nat), s, t].getD (Int.toNat (0 : Int)) (0 : Nat)))).fst)] [HObj.box Md.rw ty72
  [SV.val (Go.Value.float Go.FloatKind.f64 (0 : Nat)), SV.val (Go.Value.float Go.FloatKind.f64 (0 : Nat)), SV.val (Go.Value.float Go.FloatKind.f64 (0 : Nat))], HObj.row Md.rw ty98
  (K.flt Go.FloatKind.f64) ((List.replicate (3 : Nat) (0 : Nat)).set (Int.toNat (0 : Int)) (canonR (Go.Op.negFloat Go.FloatKind.f64 ([(4607182418800017408 : Nat), s, t].getD
  (Int.toNat (0 : Int)) (0 : Nat)))).fst)] ∧ post_1 () ((List.replicate (3 : Nat) (0 : Nat)).set (Int.toNat (0 : Int)) (canonR (Go.Op.negFloat Go.FloatKind.f64
  ([(4607182418800017408 : Nat), s, t].getD (Int.toNat (0 : Int)) (0 : Nat)))).fst, ())) (HIs [HObj.box Md.rw ty72 [SV.val (Go.Value.float Go.FloatKind.f64 (0 : Nat)), SV.val
  (Go.Value.float Go.FloatKind.f64 (0 : Nat)), SV.val (Go.Value.float Go.FloatKind.f64 (0 : Nat))], HObj.row Md.rw ty98 (K.flt Go.FloatKind.f64) (List.replicate (3 : Nat) (0 :
  Nat))] [HObj.box Md.rw ty72 [SV.val (Go.Value.float Go.FloatKind.f64 (0 : Nat)), SV.val (Go.Value.float Go.FloatKind.f64 (0 : Nat)), SV.val (Go.Value.float Go.FloatKind.f64 (0 :
  Nat))], HObj.row Md.rw ty98 (K.flt Go.FloatKind.f64) (List.replicate (3 : Nat) (0 : Nat))] ∧ post_1 () (List.replicate (3 : Nat) (0 : Nat), ())))) ∧ ∀ (x : Unit) (y : List Nat ×
  Unit), post_1 x y → ∃ (post_2 : Unit → List Nat × Unit → Prop), (∃ (h : (0 : Int) ≤ IntKind.i64.wrap ((0 : Int) + (1 : Int)) ∧ IntKind.i64.wrap ((0 : Int) + (1 : Int)) < (↑(3 :
  Nat) : Int)), ∃ (h : (0 : Int) ≤ f ∧ f < (↑(6 : Nat) : Int)), ∃ (h : (0 : Int) ≤ IntKind.i64.wrap ((0 : Int) + (1 : Int)) ∧ IntKind.i64.wrap ((0 : Int) + (1 : Int)) < (↑(3 : Nat)
  : Int)), ∃ (h : (0 : Int) ≤ (0 : Int) ∧ (0 : Int) < (↑(3 : Nat) : Int)), Br (List.getD (List.getD (framesL.getD f.toNat (K.arr (3 : Nat) (K.arr (3 : Nat) (K.int
  IntKind.i64))).dflt) (IntKind.i64.wrap ((0 : Int) + (1 : Int))).toNat (K.arr (3 : Nat) (K.int IntKind.i64)).dflt) (Int.toNat (0 : Int)) (0 : Int) == (1 : Int)) (∃ (h : True), ∃ (h
  : (0 : Int) ≤ (0 : Int) ∧ (0 : Int) < (↑(3 : Nat) : Int) ∧ (3 : Nat) ≤ y.fst.length), HIs [HObj.box Md.rw ty72 [SV.val (Go.Value.float Go.FloatKind.f64 (0 : Nat)), SV.val
  (Go.Value.float Go.FloatKind.f64 (0 : Nat)), SV.val (Go.Value.float Go.FloatKind.f64 (0 : Nat))], HObj.row Md.rw ty98 (K.flt Go.FloatKind.f64) (y.fst.set (Int.toNat (0 : Int))
  (canonR ([(4607182418800017408 : Nat), s, t].getD (IntKind.i64.wrap ((0 : Int) + (1 : Int))).toNat (0 : Nat))).fst)] [HObj.box Md.rw ty72 [SV.val (Go.Value.float Go.FloatKind.f64
  (0 : Nat)), SV.val (Go.Value.float Go.FloatKind.f64 (0 : Nat)), SV.val (Go.Value.float Go.FloatKind.f64 (0 : Nat))], HObj.row Md.rw ty98 (K.flt Go.FloatKind.f64) (y.fst.set
  (Int.toNat (0 : Int)) (canonR ([(4607182418800017408 : Nat), s, t].getD (IntKind.i64.wrap ((0 : Int) + (1 : Int))).toNat (0 : Nat))).fst)] ∧ post_2 () (y.fst.set (Int.toNat (0 :
  Int)) (canonR ([(4607182418800017408 : Nat), s, t].getD (IntKind.i64.wrap ((0 : Int) + (1 : Int))).toNat (0 : Nat))).fst, ())) (Br (List.getD (List.getD (framesL.getD f.toNat
  (K.arr (3 : Nat) (K.arr (3 : Nat) (K.int IntKind.i64))).dflt) (IntKind.i64.wrap ((0 : Int) + (1 : Int))).toNat (K.arr (3 : Nat) (K.int IntKind.i64)).dflt) (Int.toNat (0 : Int)) (0
  : Int) == (-1 : Int)) (∃ (h : True), ∃ (h : (0 : Int) ≤ (0 : Int) ∧ (0 : Int) < (↑(3 : Nat) : Int) ∧ (3 : Nat) ≤ y.fst.length), HIs [HObj.box Md.rw ty72 [SV.val (Go.Value.float
  Go.FloatKind.f64 (0 : Nat)), SV.val (Go.Value.float Go.FloatKind.f64 (0 : Nat)), SV.val (Go.Value.float Go.FloatKind.f64 (0 : Nat))], HObj.row Md.rw ty98 (K.flt Go.FloatKind.f64)
  (y.fst.set (Int.toNat (0 : Int)) (canonR (Go.Op.negFloat Go.FloatKind.f64 ([(4607182418800017408 : Nat), s, t].getD (IntKind.i64.wrap ((0 : Int) + (1 : Int))).toNat (0 :
  Nat)))).fst)] [HObj.box Md.rw ty72 [SV.val (Go.Value.float Go.FloatKind.f64 (0 : Nat)), SV.val (Go.Value.float Go.FloatKind.f64 (0 : Nat)), SV.val (Go.Value.float Go.FloatKind.f64
  (0 : Nat))], HObj.row Md.rw ty98 (K.flt Go.FloatKind.f64) (y.fst.set (Int.toNat (0 : Int)) (canonR (Go.Op.negFloat Go.FloatKind.f64 ([(4607182418800017408 : Nat), s, t].getD
  (IntKind.i64.wrap ((0 : Int) + (1 : Int))).toNat (0 : Nat)))).fst)] ∧ post_2 () (y.fst.set (Int.toNat (0 : Int)) (canonR (Go.Op.negFloat Go.FloatKind.f64 ([(4607182418800017408 :
  Nat), s, t].getD (IntKind.i64.wrap ((0 : Int) + (1 : Int))).toNat (0 : Nat)))).fst, ())) (HIs [HObj.box Md.rw ty72 [SV.val (Go.Value.float Go.FloatKind.f64 (0 : Nat)), SV.val
  (Go.Value.float Go.FloatKind.f64 (0 : Nat)), SV.val (Go.Value.float Go.FloatKind.f64 (0 : Nat))], HObj.row Md.rw ty98 (K.flt Go.FloatKind.f64) y.fst] [HObj.box Md.rw ty72 [SV.val
  (Go.Value.float Go.FloatKind.f64 (0 : Nat)), SV.val (Go.Value.float Go.FloatKind.f64 (0 : Nat)), SV.val (Go.Value.float Go.FloatKind.f64 (0 : Nat))], HObj.row Md.rw ty98 (K.flt
  Go.FloatKind.f64) y.fst] ∧ post_2 () (y.fst, ())))) ∧ ∀ (x : Unit) (y : List Nat × Unit), post_2 x y → ∃ (post_3 : Unit → List Nat × Unit → Prop), (∃ (h : (0 : Int) ≤
  IntKind.i64.wrap (IntKind.i64.wrap ((0 : Int) + (1 : Int)) + (1 : Int)) ∧ IntKind.i64.wrap (IntKind.i64.wrap ((0 : Int) + (1 : Int)) + (1 : Int)) < (↑(3 : Nat) : Int)), ∃ (h : (0
  : Int) ≤ f ∧ f < (↑(6 : Nat) : Int)), ∃ (h : (0 : Int) ≤ IntKind.i64.wrap (IntKind.i64.wrap ((0 : Int) + (1 : Int)) + (1 : Int)) ∧ IntKind.i64.wrap (IntKind.i64.wrap ((0 : Int) +
  (1 : Int)) + (1 : Int)) < (↑(3 : Nat) : Int)), ∃ (h : (0 : Int) ≤ (0 : Int) ∧ (0 : Int) < (↑(3 : Nat) : Int)), Br (List.getD (List.getD (framesL.getD f.toNat (K.arr (3 : Nat)
  (K.arr (3 : Nat) (K.int IntKind.i64))).dflt) (IntKind.i64.wrap (IntKind.i64.wrap ((0 : Int) + (1 : Int)) + (1 : Int))).toNat (K.arr (3 : Nat) (K.int IntKind.i64)).dflt) (Int.toNat
  (0 : Int)) (0 : Int) == (1 : Int)) (∃ (h : True), ∃ (h : (0 : Int) ≤ (0 : Int) ∧ (0 : Int) < (↑(3 : Nat) : Int) ∧ (3 : Nat) ≤ y.fst.length), HIs [HObj.box Md.rw ty72 [SV.val
  (Go.Value.float Go.FloatKind.f64 (0 : Nat)), SV.val (Go.Value.float Go.FloatKind.f64 (0 : Nat)), SV.val (Go.Value.float Go.FloatKind.f64 (0 : Nat))], HObj.row Md.rw ty98 (K.flt
  Go.FloatKind.f64) (y.fst.set (Int.toNat (0 : Int)) (canonR ([(4607182418800017408 : Nat), s, t].getD (IntKind.i64.wrap (IntKind.i64.wrap ((0 : Int) + (1 : Int)) + (1 :
  Int))).toNat (0 : Nat))).fst)] [HObj.box Md.rw ty72 [SV.val (Go.Value.float Go.FloatKind.f64 (0 : Nat)), SV.val (Go.Value.float Go.FloatKind.f64 (0 : Nat)), SV.val (Go.Value.float
  Go.FloatKind.f64 (0 : Nat))], HObj.row Md.rw ty98 (K.flt Go.FloatKind.f64) (y.fst.set (Int.toNat (0 : Int)) (canonR ([(4607182418800017408 : Nat), s, t].getD (IntKind.i64.wrap
  (IntKind.i64.wrap ((0 : Int) + (1 : Int)) + (1 : Int))).toNat (0 : Nat))).fst)] ∧ post_3 () (y.fst.set (Int.toNat (0 : Int)) (canonR ([(4607182418800017408 : Nat), s, t].getD
  (IntKind.i64.wrap (IntKind.i64.wrap ((0 : Int) + (1 : Int)) + (1 : Int))).toNat (0 : Nat))).fst, ())) (Br (List.getD (List.getD (framesL.getD f.toNat (K.arr (3 : Nat) (K.arr (3 :
  Nat) (K.int IntKind.i64))).dflt) (IntKind.i64.wrap (IntKind.i64.wrap ((0 : Int) + (1 : Int)) + (1 : Int))).toNat (K.arr (3 : Nat) (K.int IntKind.i64)).dflt) (Int.toNat (0 : Int))
  (0 : Int) == (-1 : Int)) (∃ (h : True), ∃ (h : (0 : Int) ≤ (0 : Int) ∧ (0 : Int) < (↑(3 : Nat) : Int) ∧ (3 : Nat) ≤ y.fst.length), HIs [HObj.box Md.rw ty72 [SV.val (Go.Value.float
  Go.FloatKind.f64 (0 : Nat)), SV.val (Go.Value.float Go.FloatKind.f64 (0 : Nat)), SV.val (Go.Value.float Go.FloatKind.f64 (0 : Nat))], HObj.row Md.rw ty98 (K.flt Go.FloatKind.f64)
  (y.fst.set (Int.toNat (0 : Int)) (canonR (Go.Op.negFloat Go.FloatKind.f64 ([(4607182418800017408 : Nat), s, t].getD (IntKind.i64.wrap (IntKind.i64.wrap ((0 : Int) + (1 : Int)) +
  (1 : Int))).toNat (0 : Nat)))).fst)] [HObj.box Md.rw ty72 [SV.val (Go.Value.float Go.FloatKind.f64 (0 : Nat)), SV.val (Go.Value.float Go.FloatKind.f64 (0 : Nat)), SV.val
  (Go.Value.float Go.FloatKind.f64 (0 : Nat))], HObj.row Md.rw ty98 (K.flt Go.FloatKind.f64) (y.fst.set (Int.toNat (0 : Int)) (canonR (Go.Op.negFloat Go.FloatKind.f64
  ([(4607182418800017408 : Nat), s, t].getD (IntKind.i64.wrap (IntKind.i64.wrap ((0 : Int) + (1 : Int)) + (1 : Int))).toNat (0 : Nat)))).fst)] ∧ post_3 () (y.fst.set (Int.toNat (0 :
  Int)) (canonR (Go.Op.negFloat Go.FloatKind.f64 ([(4607182418800017408 : Nat), s, t].getD (IntKind.i64.wrap (IntKind.i64.wrap ((0 : Int) + (1 : Int)) + (1 : Int))).toNat (0 :
  Nat)))).fst, ())) (HIs [HObj.box Md.rw ty72 [SV.val (Go.Value.float Go.FloatKind.f64 (0 : Nat)), SV.val (Go.Value.float Go.FloatKind.f64 (0 : Nat)), SV.val (Go.Value.float
  Go.FloatKind.f64 (0 : Nat))], HObj.row Md.rw ty98 (K.flt Go.FloatKind.f64) y.fst] [HObj.box Md.rw ty72 [SV.val (Go.Value.float Go.FloatKind.f64 (0 : Nat)), SV.val (Go.Value.float
  Go.FloatKind.f64 (0 : Nat)), SV.val (Go.Value.float Go.FloatKind.f64 (0 : Nat))], HObj.row Md.rw ty98 (K.flt Go.FloatKind.f64) y.fst] ∧ post_3 () (y.fst, ())))) ∧ ∀ (x : Unit) (y
  : List Nat × Unit), post_3 x y → ∃ (post_4 : Unit → List Nat × Unit → Prop), (∃ (h : (0 : Int) ≤ (0 : Int) ∧ (0 : Int) < (↑(3 : Nat) : Int)), ∃ (h : (0 : Int) ≤ f ∧ f < (↑(6 :
  Nat) : Int)), ∃ (h : (0 : Int) ≤ (0 : Int) ∧ (0 : Int) < (↑(3 : Nat) : Int)), ∃ (h : (0 : Int) ≤ IntKind.i64.wrap ((0 : Int) + (1 : Int)) ∧ IntKind.i64.wrap ((0 : Int) + (1 :
  Int)) < (↑(3 : Nat) : Int)), Br (List.getD (List.getD (framesL.getD f.toNat (K.arr (3 : Nat) (K.arr (3 : Nat) (K.int IntKind.i64))).dflt) (Int.toNat (0 : Int)) (K.arr (3 : Nat)
  (K.int IntKind.i64)).dflt) (IntKind.i64.wrap ((0 : Int) + (1 : Int))).toNat (0 : Int) == (1 : Int)) (∃ (h : True), ∃ (h : (0 : Int) ≤ IntKind.i64.wrap ((0 : Int) + (1 : Int)) ∧
  IntKind.i64.wrap ((0 : Int) + (1 : Int)) < (↑(3 : Nat) : Int) ∧ (3 : Nat) ≤ y.fst.length), HIs [HObj.box Md.rw ty72 [SV.val (Go.Value.float Go.FloatKind.f64 (0 : Nat)), SV.val
  (Go.Value.float Go.FloatKind.f64 (0 : Nat)), SV.val (Go.Value.float Go.FloatKind.f64 (0 : Nat))], HObj.row Md.rw ty98 (K.flt Go.FloatKind.f64) (y.fst.set (IntKind.i64.wrap ((0 :
  Int) + (1 : Int))).toNat (canonR ([(4607182418800017408 : Nat), s, t].getD (Int.toNat (0 : Int)) (0 : Nat))).fst)] [HObj.box Md.rw ty72 [SV.val (Go.Value.float Go.FloatKind.f64 (0
  : Nat)), SV.val (Go.Value.float Go.FloatKind.f64 (0 : Nat)), SV.val (Go.Value.float Go.FloatKind.f64 (0 : Nat))], HObj.row Md.rw ty98 (K.flt Go.FloatKind.f64) (y.fst.set
  (IntKind.i64.wrap ((0 : Int) + (1 : Int))).toNat (canonR ([(4607182418800017408 : Nat), s, t].getD (Int.toNat (0 : Int)) (0 : Nat))).fst)] ∧ post_4 () (y.fst.set (IntKind.i64.wrap
  ((0 : Int) + (1 : Int))).toNat (canonR ([(4607182418800017408 : Nat), s, t].getD (Int.toNat (0 : Int)) (0 : Nat))).fst, ())) (Br (List.getD (List.getD (framesL.getD f.toNat (K.arr
  (3 : Nat) (K.arr (3 : Nat) (K.int IntKind.i64))).dflt) (Int.toNat (0 : Int)) (K.arr (3 : Nat) (K.int IntKind.i64)).dflt) (IntKind.i64.wrap ((0 : Int) + (1 : Int))).toNat (0 : Int)
  == (-1 : Int)) (∃ (h : True), ∃ (h : (0 : Int) ≤ IntKind.i64.wrap ((0 : Int) + (1 : Int)) ∧ IntKind.i64.wrap ((0 : Int) + (1 : Int)) < (↑(3 : Nat) : Int) ∧ (3 : Nat) ≤
  y.fst.length), HIs [HObj.box Md.rw ty72 [SV.val (Go.Value.float Go.FloatKind.f64 (0 : Nat)), SV.val (Go.Value.float Go.FloatKind.f64 (0 : Nat)), SV.val (Go.Value.float
  Go.FloatKind.f64 (0 : Nat))], HObj.row Md.rw ty98 (K.flt Go.FloatKind.f64) (y.fst.set (IntKind.i64.wrap ((0 : Int) + (1 : Int))).toNat (canonR (Go.Op.negFloat Go.FloatKind.f64
  ([(4607182418800017408 : Nat), s, t].getD (Int.toNat (0 : Int)) (0 : Nat)))).fst)] [HObj.box Md.rw ty72 [SV.val (Go.Value.float Go.FloatKind.f64 (0 : Nat)), SV.val (Go.Value.float
  Go.FloatKind.f64 (0 : Nat)), SV.val (Go.Value.float Go.FloatKind.f64 (0 : Nat))], HObj.row Md.rw ty98 (K.flt Go.FloatKind.f64) (y.fst.set (IntKind.i64.wrap ((0 : Int) + (1 :
  Int))).toNat (canonR (Go.Op.negFloat Go.FloatKind.f64 ([(4607182418800017408 : Nat), s, t].getD (Int.toNat (0 : Int)) (0 : Nat)))).fst)] ∧ post_4 () (y.fst.set (IntKind.i64.wrap
  ((0 : Int) + (1 : Int))).toNat (canonR (Go.Op.negFloat Go.FloatKind.f64 ([(4607182418800017408 : Nat), s, t].getD (Int.toNat (0 : Int)) (0 : Nat)))).fst, ())) (HIs [HObj.box Md.rw
  ty72 [SV.val (Go.Value.float Go.FloatKind.f64 (0 : Nat)), SV.val (Go.Value.float Go.FloatKind.f64 (0 : Nat)), SV.val (Go.Value.float Go.FloatKind.f64 (0 : Nat))], HObj.row Md.rw
  ty98 (K.flt Go.FloatKind.f64) y.fst] [HObj.box Md.rw ty72 [SV.val (Go.Value.float Go.FloatKind.f64 (0 : Nat)), SV.val (Go.Value.float Go.FloatKind.f64 (0 : Nat)), SV.val
  (Go.Value.float Go.FloatKind.f64 (0 : Nat))], HObj.row Md.rw ty98 (K.flt Go.FloatKind.f64) y.fst] ∧ post_4 () (y.fst, ())))) ∧ ∀ (x : Unit) (y : List Nat × Unit), post_4 x y → ∃
  (post_5 : Unit → List Nat × Unit → Prop), (∃ (h : (0 : Int) ≤ IntKind.i64.wrap ((0 : Int) + (1 : Int)) ∧ IntKind.i64.wrap ((0 : Int) + (1 : Int)) < (↑(3 : Nat) : Int)), ∃ (h : (0
  : Int) ≤ f ∧ f < (↑(6 : Nat) : Int)), ∃ (h : (0 : Int) ≤ IntKind.i64.wrap ((0 : Int) + (1 : Int)) ∧ IntKind.i64.wrap ((0 : Int) + (1 : Int)) < (↑(3 : Nat) : Int)), ∃ (h : (0 :
  Int) ≤ IntKind.i64.wrap ((0 : Int) + (1 : Int)) ∧ IntKind.i64.wrap ((0 : Int) + (1 : Int)) < (↑(3 : Nat) : Int)), Br (List.getD (List.getD (framesL.getD f.toNat (K.arr (3 : Nat)
  (K.arr (3 : Nat) (K.int IntKind.i64))).dflt) (IntKind.i64.wrap ((0 : Int) + (1 : Int))).toNat (K.arr (3 : Nat) (K.int IntKind.i64)).dflt) (IntKind.i64.wrap ((0 : Int) + (1 :
  Int))).toNat (0 : Int) == (1 : Int)) (∃ (h : True), ∃ (h : (0 : Int) ≤ IntKind.i64.wrap ((0 : Int) + (1 : Int)) ∧ IntKind.i64.wrap ((0 : Int) + (1 : Int)) < (↑(3 : Nat) : Int) ∧
  (3 : Nat) ≤ y.fst.length), HIs [HObj.box Md.rw ty72 [SV.val (Go.Value.float Go.FloatKind.f64 (0 : Nat)), SV.val (Go.Value.float Go.FloatKind.f64 (0 : Nat)), SV.val (Go.Value.float
  Go.FloatKind.f64 (0 : Nat))], HObj.row Md.rw ty98 (K.flt Go.FloatKind.f64) (y.fst.set (IntKind.i64.wrap ((0 : Int) + (1 : Int))).toNat (canonR ([(4607182418800017408 : Nat), s,
  t].getD (IntKind.i64.wrap ((0 : Int) + (1 : Int))).toNat (0 : Nat))).fst)] [HObj.box Md.rw ty72 [SV.val (Go.Value.float Go.FloatKind.f64 (0 : Nat)), SV.val (Go.Value.float
  Go.FloatKind.f64 (0 : Nat)), SV.val (Go.Value.float Go.FloatKind.f64 (0 : Nat))], HObj.row Md.rw ty98 (K.flt Go.FloatKind.f64) (y.fst.set (IntKind.i64.wrap ((0 : Int) + (1 :
  Int))).toNat (canonR ([(4607182418800017408 : Nat), s, t].getD (IntKind.i64.wrap ((0 : Int) + (1 : Int))).toNat (0 : Nat))).fst)] ∧ post_5 () (y.fst.set (IntKind.i64.wrap ((0 :
  Int) + (1 : Int))).toNat (canonR ([(4607182418800017408 : Nat), s, t].getD (IntKind.i64.wrap ((0 : Int) + (1 : Int))).toNat (0 : Nat))).fst, ())) (Br (List.getD (List.getD
  (framesL.getD f.toNat (K.arr (3 : Nat) (K.arr (3 : Nat) (K.int IntKind.i64))).dflt) (IntKind.i64.wrap ((0 : Int) + (1 : Int))).toNat (K.arr (3 : Nat) (K.int IntKind.i64)).dflt)
  (IntKind.i64.wrap ((0 : Int) + (1 : Int))).toNat (0 : Int) == (-1 : Int)) (∃ (h : True), ∃ (h : (0 : Int) ≤ IntKind.i64.wrap ((0 : Int) + (1 : Int)) ∧ IntKind.i64.wrap ((0 : Int)
  + (1 : Int)) < (↑(3 : Nat) : Int) ∧ (3 : Nat) ≤ y.fst.length), HIs [HObj.box Md.rw ty72 [SV.val (Go.Value.float Go.FloatKind.f64 (0 : Nat)), SV.val (Go.Value.float
  Go.FloatKind.f64 (0 : Nat)), SV.val (Go.Value.float Go.FloatKind.f64 (0 : Nat))], HObj.row Md.rw ty98 (K.flt Go.FloatKind.f64) (y.fst.set (IntKind.i64.wrap ((0 : Int) + (1 :
  Int))).toNat (canonR (Go.Op.negFloat Go.FloatKind.f64 ([(4607182418800017408 : Nat), s, t].getD (IntKind.i64.wrap ((0 : Int) + (1 : Int))).toNat (0 : Nat)))).fst)] [HObj.box Md.rw
  ty72 [SV.val (Go.Value.float Go.FloatKind.f64 (0 : Nat)), SV.val (Go.Value.float Go.FloatKind.f64 (0 : Nat)), SV.val (Go.Value.float Go.FloatKind.f64 (0 : Nat))], HObj.row Md.rw
  ty98 (K.flt Go.FloatKind.f64) (y.fst.set (IntKind.i64.wrap ((0 : Int) + (1 : Int))).toNat (canonR (Go.Op.negFloat Go.FloatKind.f64 ([(4607182418800017408 : Nat), s, t].getD
  (IntKind.i64.wrap ((0 : Int) + (1 : Int))).toNat (0 : Nat)))).fst)] ∧ post_5 () (y.fst.set (IntKind.i64.wrap ((0 : Int) + (1 : Int))).toNat (canonR (Go.Op.negFloat
  Go.FloatKind.f64 ([(4607182418800017408 : Nat), s, t].getD (IntKind.i64.wrap ((0 : Int) + (1 : Int))).toNat (0 : Nat)))).fst, ())) (HIs [HObj.box Md.rw ty72 [SV.val
  (Go.Value.float Go.FloatKind.f64 (0 : Nat)), SV.val (Go.Value.float Go.FloatKind.f64 (0 : Nat)), SV.val (Go.Value.float Go.FloatKind.f64 (0 : Nat))], HObj.row Md.rw ty98 (K.flt
  Go.FloatKind.f64) y.fst] [HObj.box Md.rw ty72 [SV.val (Go.Value.float Go.FloatKind.f64 (0 : Nat)), SV.val (Go.Value.float Go.FloatKind.f64 (0 : Nat)), SV.val (Go.Value.float
  Go.FloatKind.f64 (0 : Nat))], HObj.row Md.rw ty98 (K.flt Go.FloatKind.f64) y.fst] ∧ post_5 () (y.fst, ())))) ∧ ∀ (x : Unit) (y : List Nat × Unit), post_5 x y → ∃ (post_6 : Unit →
  List Nat × Unit → Prop), (∃ (h : (0 : Int) ≤ IntKind.i64.wrap (IntKind.i64.wrap ((0 : Int) + (1 : Int)) + (1 : Int)) ∧ IntKind.i64.wrap (IntKind.i64.wrap ((0 : Int) + (1 : Int)) +
  (1 : Int)) < (↑(3 : Nat) : Int)), ∃ (h : (0 : Int) ≤ f ∧ f < (↑(6 : Nat) : Int)), ∃ (h : (0 : Int) ≤ IntKind.i64.wrap (IntKind.i64.wrap ((0 : Int) + (1 : Int)) + (1 : Int)) ∧
  IntKind.i64.wrap (IntKind.i64.wrap ((0 : Int) + (1 : Int)) + (1 : Int)) < (↑(3 : Nat) : Int)), ∃ (h : (0 : Int) ≤ IntKind.i64.wrap ((0 : Int) + (1 : Int)) ∧ IntKind.i64.wrap ((0 :
  Int) + (1 : Int)) < (↑(3 : Nat) : Int)), Br (List.getD (List.getD (framesL.getD f.toNat (K.arr (3 : Nat) (K.arr (3 : Nat) (K.int IntKind.i64))).dflt) (IntKind.i64.wrap
  (IntKind.i64.wrap ((0 : Int) + (1 : Int)) + (1 : Int))).toNat (K.arr (3 : Nat) (K.int IntKind.i64)).dflt) (IntKind.i64.wrap ((0 : Int) + (1 : Int))).toNat (0 : Int) == (1 : Int))
  (∃ (h : True), ∃ (h : (0 : Int) ≤ IntKind.i64.wrap ((0 : Int) + (1 : Int)) ∧ IntKind.i64.wrap ((0 : Int) + (1 : Int)) < (↑(3 : Nat) : Int) ∧ (3 : Nat) ≤ y.fst.length), HIs
  [HObj.box Md.rw ty72 [SV.val (Go.Value.float Go.FloatKind.f64 (0 : Nat)), SV.val (Go.Value.float Go.FloatKind.f64 (0 : Nat)), SV.val (Go.Value.float Go.FloatKind.f64 (0 : Nat))],
  HObj.row Md.rw ty98 (K.flt Go.FloatKind.f64) (y.fst.set (IntKind.i64.wrap ((0 : Int) + (1 : Int))).toNat (canonR ([(4607182418800017408 : Nat), s, t].getD (IntKind.i64.wrap
  (IntKind.i64.wrap ((0 : Int) + (1 : Int)) + (1 : Int))).toNat (0 : Nat))).fst)] [HObj.box Md.rw ty72 [SV.val (Go.Value.float Go.FloatKind.f64 (0 : Nat)), SV.val (Go.Value.float
  Go.FloatKind.f64 (0 : Nat)), SV.val (Go.Value.float Go.FloatKind.f64 (0 : Nat))], HObj.row Md.rw ty98 (K.flt Go.FloatKind.f64) (y.fst.set (IntKind.i64.wrap ((0 : Int) + (1 :
  Int))).toNat (canonR ([(4607182418800017408 : Nat), s, t].getD (IntKind.i64.wrap (IntKind.i64.wrap ((0 : Int) + (1 : Int)) + (1 : Int))).toNat (0 : Nat))).fst)] ∧ post_6 ()
  (y.fst.set (IntKind.i64.wrap ((0 : Int) + (1 : Int))).toNat (canonR ([(4607182418800017408 : Nat), s, t].getD (IntKind.i64.wrap (IntKind.i64.wrap ((0 : Int) + (1 : Int)) + (1 :
  Int))).toNat (0 : Nat))).fst, ())) (Br (List.getD (List.getD (framesL.getD f.toNat (K.arr (3 : Nat) (K.arr (3 : Nat) (K.int IntKind.i64))).dflt) (IntKind.i64.wrap
  (IntKind.i64.wrap ((0 : Int) + (1 : Int)) + (1 : Int))).toNat (K.arr (3 : Nat) (K.int IntKind.i64)).dflt) (IntKind.i64.wrap ((0 : Int) + (1 : Int))).toNat (0 : Int) == (-1 : Int))
  (∃ (h : True), ∃ (h : (0 : Int) ≤ IntKind.i64.wrap ((0 : Int) + (1 : Int)) ∧ IntKind.i64.wrap ((0 : Int) + (1 : Int)) < (↑(3 : Nat) : Int) ∧ (3 : Nat) ≤ y.fst.length), HIs
  [HObj.box Md.rw ty72 [SV.val (Go.Value.float Go.FloatKind.f64 (0 : Nat)), SV.val (Go.Value.float Go.FloatKind.f64 (0 : Nat)), SV.val (Go.Value.float Go.FloatKind.f64 (0 : Nat))],
  HObj.row Md.rw ty98 (K.flt Go.FloatKind.f64) (y.fst.set (IntKind.i64.wrap ((0 : Int) + (1 : Int))).toNat (canonR (Go.Op.negFloat Go.FloatKind.f64 ([(4607182418800017408 : Nat), s,
  t].getD (IntKind.i64.wrap (IntKind.i64.wrap ((0 : Int) + (1 : Int)) + (1 : Int))).toNat (0 : Nat)))).fst)] [HObj.box Md.rw ty72 [SV.val (Go.Value.float Go.FloatKind.f64 (0 :
  Nat)), SV.val (Go.Value.float Go.FloatKind.f64 (0 : Nat)), SV.val (Go.Value.float Go.FloatKind.f64 (0 : Nat))], HObj.row Md.rw ty98 (K.flt Go.FloatKind.f64) (y.fst.set
  (IntKind.i64.wrap ((0 : Int) + (1 : Int))).toNat (canonR (Go.Op.negFloat Go.FloatKind.f64 ([(4607182418800017408 : Nat), s, t].getD (IntKind.i64.wrap (IntKind.i64.wrap ((0 : Int)
  + (1 : Int)) + (1 : Int))).toNat (0 : Nat)))).fst)] ∧ post_6 () (y.fst.set (IntKind.i64.wrap ((0 : Int) + (1 : Int))).toNat (canonR (Go.Op.negFloat Go.FloatKind.f64
  ([(4607182418800017408 : Nat), s, t].getD (IntKind.i64.wrap (IntKind.i64.wrap ((0 : Int) + (1 : Int)) + (1 : Int))).toNat (0 : Nat)))).fst, ())) (HIs [HObj.box Md.rw ty72 [SV.val
  (Go.Value.float Go.FloatKind.f64 (0 : Nat)), SV.val (Go.Value.float Go.FloatKind.f64 (0 : Nat)), SV.val (Go.Value.float Go.FloatKind.f64 (0 : Nat))], HObj.row Md.rw ty98 (K.flt
  Go.FloatKind.f64) y.fst] [HObj.box Md.rw ty72 [SV.val (Go.Value.float Go.FloatKind.f64 (0 : Nat)), SV.val (Go.Value.float Go.FloatKind.f64 (0 : Nat)), SV.val (Go.Value.float
  Go.FloatKind.f64 (0 : Nat))], HObj.row Md.rw ty98 (K.flt Go.FloatKind.f64) y.fst] ∧ post_6 () (y.fst, ())))) ∧ ∀ (x : Unit) (y : List Nat × Unit), post_6 x y → ∃ (post_7 : Unit →
  List Nat × Unit → Prop), (∃ (h : (0 : Int) ≤ (0 : Int) ∧ (0 : Int) < (↑(3 : Nat) : Int)), ∃ (h : (0 : Int) ≤ f ∧ f < (↑(6 : Nat) : Int)), ∃ (h : (0 : Int) ≤ (0 : Int) ∧ (0 : Int)
  < (↑(3 : Nat) : Int)), ∃ (h : (0 : Int) ≤ IntKind.i64.wrap (IntKind.i64.wrap ((0 : Int) + (1 : Int)) + (1 : Int)) ∧ IntKind.i64.wrap (IntKind.i64.wrap ((0 : Int) + (1 : Int)) + (1
  : Int)) < (↑(3 : Nat) : Int)), Br (List.getD (List.getD (framesL.getD f.toNat (K.arr (3 : Nat) (K.arr (3 : Nat) (K.int IntKind.i64))).dflt) (Int.toNat (0 : Int)) (K.arr (3 : Nat)
  (K.int IntKind.i64)).dflt) (IntKind.i64.wrap (IntKind.i64.wrap ((0 : Int) + (1 : Int)) + (1 : Int))).toNat (0 : Int) == (1 : Int)) (∃ (h : True), ∃ (h : (0 : Int) ≤
  IntKind.i64.wrap (IntKind.i64.wrap ((0 : Int) + (1 : Int)) + (1 : Int)) ∧ IntKind.i64.wrap (IntKind.i64.wrap ((0 : Int) + (1 : Int)) + (1 : Int)) < (↑(3 : Nat) : Int) ∧ (3 : Nat)
  ≤ y.fst.length), HIs [HObj.box Md.rw ty72 [SV.val (Go.Value.float Go.FloatKind.f64 (0 : Nat)), SV.val (Go.Value.float Go.FloatKind.f64 (0 : Nat)), SV.val (Go.Value.float
  Go.FloatKind.f64 (0 : Nat))], HObj.row Md.rw ty98 (K.flt Go.FloatKind.f64) (y.fst.set (IntKind.i64.wrap (IntKind.i64.wrap ((0 : Int) + (1 : Int)) + (1 : Int))).toNat (canonR
  ([(4607182418800017408 : Nat), s, t].getD (Int.toNat (0 : Int)) (0 : Nat))).fst)] [HObj.box Md.rw ty72 [SV.val (Go.Value.float Go.FloatKind.f64 (0 : Nat)), SV.val (Go.Value.float
  Go.FloatKind.f64 (0 : Nat)), SV.val (Go.Value.float Go.FloatKind.f64 (0 : Nat))], HObj.row Md.rw ty98 (K.flt Go.FloatKind.f64) (y.fst.set (IntKind.i64.wrap (IntKind.i64.wrap ((0 :
  Int) + (1 : Int)) + (1 : Int))).toNat (canonR ([(4607182418800017408 : Nat), s, t].getD (Int.toNat (0 : Int)) (0 : Nat))).fst)] ∧ post_7 () (y.fst.set (IntKind.i64.wrap
  (IntKind.i64.wrap ((0 : Int) + (1 : Int)) + (1 : Int))).toNat (canonR ([(4607182418800017408 : Nat), s, t].getD (Int.toNat (0 : Int)) (0 : Nat))).fst, ())) (Br (List.getD
  (List.getD (framesL.getD f.toNat (K.arr (3 : Nat) (K.arr (3 : Nat) (K.int IntKind.i64))).dflt) (Int.toNat (0 : Int)) (K.arr (3 : Nat) (K.int IntKind.i64)).dflt) (IntKind.i64.wrap
  (IntKind.i64.wrap ((0 : Int) + (1 : Int)) + (1 : Int))).toNat (0 : Int) == (-1 : Int)) (∃ (h : True), ∃ (h : (0 : Int) ≤ IntKind.i64.wrap (IntKind.i64.wrap ((0 : Int) + (1 : Int))
  + (1 : Int)) ∧ IntKind.i64.wrap (IntKind.i64.wrap ((0 : Int) + (1 : Int)) + (1 : Int)) < (↑(3 : Nat) : Int) ∧ (3 : Nat) ≤ y.fst.length), HIs [HObj.box Md.rw ty72 [SV.val
  (Go.Value.float Go.FloatKind.f64 (0 : Nat)), SV.val (Go.Value.float Go.FloatKind.f64 (0 : Nat)), SV.val (Go.Value.float Go.FloatKind.f64 (0 : Nat))], HObj.row Md.rw ty98 (K.flt
  Go.FloatKind.f64) (y.fst.set (IntKind.i64.wrap (IntKind.i64.wrap ((0 : Int) + (1 : Int)) + (1 : Int))).toNat (canonR (Go.Op.negFloat Go.FloatKind.f64 ([(4607182418800017408 :
  Nat), s, t].getD (Int.toNat (0 : Int)) (0 : Nat)))).fst)] [HObj.box Md.rw ty72 [SV.val (Go.Value.float Go.FloatKind.f64 (0 : Nat)), SV.val (Go.Value.float Go.FloatKind.f64 (0 :
  Nat)), SV.val (Go.Value.float Go.FloatKind.f64 (0 : Nat))], HObj.row Md.rw ty98 (K.flt Go.FloatKind.f64) (y.fst.set (IntKind.i64.wrap (IntKind.i64.wrap ((0 : Int) + (1 : Int)) +
  (1 : Int))).toNat (canonR (Go.Op.negFloat Go.FloatKind.f64 ([(4607182418800017408 : Nat), s, t].getD (Int.toNat (0 : Int)) (0 : Nat)))).fst)] ∧ post_7 () (y.fst.set
  (IntKind.i64.wrap (IntKind.i64.wrap ((0 : Int) + (1 : Int)) + (1 : Int))).toNat (canonR (Go.Op.negFloat Go.FloatKind.f64 ([(4607182418800017408 : Nat), s, t].getD (Int.toNat (0 :
  Int)) (0 : Nat)))).fst, ())) (HIs [HObj.box Md.rw ty72 [SV.val (Go.Value.float Go.FloatKind.f64 (0 : Nat)), SV.val (Go.Value.float Go.FloatKind.f64 (0 : Nat)), SV.val
  (Go.Value.float Go.FloatKind.f64 (0 : Nat))], HObj.row Md.rw ty98 (K.flt Go.FloatKind.f64) y.fst] [HObj.box Md.rw ty72 [SV.val (Go.Value.float Go.FloatKind.f64 (0 : Nat)), SV.val
  (Go.Value.float Go.FloatKind.f64 (0 : Nat)), SV.val (Go.Value.float Go.FloatKind.f64 (0 : Nat))], HObj.row Md.rw ty98 (K.flt Go.FloatKind.f64) y.fst] ∧ post_7 () (y.fst, ())))) ∧
  ∀ (x : Unit) (y : List Nat × Unit), post_7 x y → ∃ (post_8 : Unit → List Nat × Unit → Prop), (∃ (h : (0 : Int) ≤ IntKind.i64.wrap ((0 : Int) + (1 : Int)) ∧ IntKind.i64.wrap ((0 :
  Int) + (1 : Int)) < (↑(3 : Nat) : Int)), ∃ (h : (0 : Int) ≤ f ∧ f < (↑(6 : Nat) : Int)), ∃ (h : (0 : Int) ≤ IntKind.i64.wrap ((0 : Int) + (1 : Int)) ∧ IntKind.i64.wrap ((0 : Int)
  + (1 : Int)) < (↑(3 : Nat) : Int)), ∃ (h : (0 : Int) ≤ IntKind.i64.wrap (IntKind.i64.wrap ((0 : Int) + (1 : Int)) + (1 : Int)) ∧ IntKind.i64.wrap (IntKind.i64.wrap ((0 : Int) + (1
  : Int)) + (1 : Int)) < (↑(3 : Nat) : Int)), Br (List.getD (List.getD (framesL.getD f.toNat (K.arr (3 : Nat) (K.arr (3 : Nat) (K.int IntKind.i64))).dflt) (IntKind.i64.wrap ((0 :
  Int) + (1 : Int))).toNat (K.arr (3 : Nat) (K.int IntKind.i64)).dflt) (IntKind.i64.wrap (IntKind.i64.wrap ((0 : Int) + (1 : Int)) + (1 : Int))).toNat (0 : Int) == (1 : Int)) (∃ (h
  : True), ∃ (h : (0 : Int) ≤ IntKind.i64.wrap (IntKind.i64.wrap ((0 : Int) + (1 : Int)) + (1 : Int)) ∧ IntKind.i64.wrap (IntKind.i64.wrap ((0 : Int) + (1 : Int)) + (1 : Int)) <
  (↑(3 : Nat) : Int) ∧ (3 : Nat) ≤ y.fst.length), HIs [HObj.box Md.rw ty72 [SV.val (Go.Value.float Go.FloatKind.f64 (0 : Nat)), SV.val (Go.Value.float Go.FloatKind.f64 (0 : Nat)),
  SV.val (Go.Value.float Go.FloatKind.f64 (0 : Nat))], HObj.row Md.rw ty98 (K.flt Go.FloatKind.f64) (y.fst.set (IntKind.i64.wrap (IntKind.i64.wrap ((0 : Int) + (1 : Int)) + (1 :
  Int))).toNat (canonR ([(4607182418800017408 : Nat), s, t].getD (IntKind.i64.wrap ((0 : Int) + (1 : Int))).toNat (0 : Nat))).fst)] [HObj.box Md.rw ty72 [SV.val (Go.Value.float
  Go.FloatKind.f64 (0 : Nat)), SV.val (Go.Value.float Go.FloatKind.f64 (0 : Nat)), SV.val (Go.Value.float Go.FloatKind.f64 (0 : Nat))], HObj.row Md.rw ty98 (K.flt Go.FloatKind.f64)
  (y.fst.set (IntKind.i64.wrap (IntKind.i64.wrap ((0 : Int) + (1 : Int)) + (1 : Int))).toNat (canonR ([(4607182418800017408 : Nat), s, t].getD (IntKind.i64.wrap ((0 : Int) + (1 :
  Int))).toNat (0 : Nat))).fst)] ∧ post_8 () (y.fst.set (IntKind.i64.wrap (IntKind.i64.wrap ((0 : Int) + (1 : Int)) + (1 : Int))).toNat (canonR ([(4607182418800017408 : Nat), s,
  t].getD (IntKind.i64.wrap ((0 : Int) + (1 : Int))).toNat (0 : Nat))).fst, ())) (Br (List.getD (List.getD (framesL.getD f.toNat (K.arr (3 : Nat) (K.arr (3 : Nat) (K.int
  IntKind.i64))).dflt) (IntKind.i64.wrap ((0 : Int) + (1 : Int))).toNat (K.arr (3 : Nat) (K.int IntKind.i64)).dflt) (IntKind.i64.wrap (IntKind.i64.wrap ((0 : Int) + (1 : Int)) + (1
  : Int))).toNat (0 : Int) == (-1 : Int)) (∃ (h : True), ∃ (h : (0 : Int) ≤ IntKind.i64.wrap (IntKind.i64.wrap ((0 : Int) + (1 : Int)) + (1 : Int)) ∧ IntKind.i64.wrap
  (IntKind.i64.wrap ((0 : Int) + (1 : Int)) + (1 : Int)) < (↑(3 : Nat) : Int) ∧ (3 : Nat) ≤ y.fst.length), HIs [HObj.box Md.rw ty72 [SV.val (Go.Value.float Go.FloatKind.f64 (0 :
  Nat)), SV.val (Go.Value.float Go.FloatKind.f64 (0 : Nat)), SV.val (Go.Value.float Go.FloatKind.f64 (0 : Nat))], HObj.row Md.rw ty98 (K.flt Go.FloatKind.f64) (y.fst.set
  (IntKind.i64.wrap (IntKind.i64.wrap ((0 : Int) + (1 : Int)) + (1 : Int))).toNat (canonR (Go.Op.negFloat Go.FloatKind.f64 ([(4607182418800017408 : Nat), s, t].getD
  (IntKind.i64.wrap ((0 : Int) + (1 : Int))).toNat (0 : Nat)))).fst)] [HObj.box Md.rw ty72 [SV.val (Go.Value.float Go.FloatKind.f64 (0 : Nat)), SV.val (Go.Value.float
  Go.FloatKind.f64 (0 : Nat)), SV.val (Go.Value.float Go.FloatKind.f64 (0 : Nat))], HObj.row Md.rw ty98 (K.flt Go.FloatKind.f64) (y.fst.set (IntKind.i64.wrap (IntKind.i64.wrap ((0 :
  Int) + (1 : Int)) + (1 : Int))).toNat (canonR (Go.Op.negFloat Go.FloatKind.f64 ([(4607182418800017408 : Nat), s, t].getD (IntKind.i64.wrap ((0 : Int) + (1 : Int))).toNat (0 :
  Nat)))).fst)] ∧ post_8 () (y.fst.set (IntKind.i64.wrap (IntKind.i64.wrap ((0 : Int) + (1 : Int)) + (1 : Int))).toNat (canonR (Go.Op.negFloat Go.FloatKind.f64
  ([(4607182418800017408 : Nat), s, t].getD (IntKind.i64.wrap ((0 : Int) + (1 : Int))).toNat (0 : Nat)))).fst, ())) (HIs [HObj.box Md.rw ty72 [SV.val (Go.Value.float
  Go.FloatKind.f64 (0 : Nat)), SV.val (Go.Value.float Go.FloatKind.f64 (0 : Nat)), SV.val (Go.Value.float Go.FloatKind.f64 (0 : Nat))], HObj.row Md.rw ty98 (K.flt Go.FloatKind.f64)
  y.fst] [HObj.box Md.rw ty72 [SV.val (Go.Value.float Go.FloatKind.f64 (0 : Nat)), SV.val (Go.Value.float Go.FloatKind.f64 (0 : Nat)), SV.val (Go.Value.float Go.FloatKind.f64 (0 :
  Nat))], HObj.row Md.rw ty98 (K.flt Go.FloatKind.f64) y.fst] ∧ post_8 () (y.fst, ())))) ∧ ∀ (x : Unit) (y : List Nat × Unit), post_8 x y → ∃ (post_9 : Unit → List Nat × Unit →
  Prop), (∃ (h : (0 : Int) ≤ IntKind.i64.wrap (IntKind.i64.wrap ((0 : Int) + (1 : Int)) + (1 : Int)) ∧ IntKind.i64.wrap (IntKind.i64.wrap ((0 : Int) + (1 : Int)) + (1 : Int)) < (↑(3
  : Nat) : Int)), ∃ (h : (0 : Int) ≤ f ∧ f < (↑(6 : Nat) : Int)), ∃ (h : (0 : Int) ≤ IntKind.i64.wrap (IntKind.i64.wrap ((0 : Int) + (1 : Int)) + (1 : Int)) ∧ IntKind.i64.wrap
  (IntKind.i64.wrap ((0 : Int) + (1 : Int)) + (1 : Int)) < (↑(3 : Nat) : Int)), ∃ (h : (0 : Int) ≤ IntKind.i64.wrap (IntKind.i64.wrap ((0 : Int) + (1 : Int)) + (1 : Int)) ∧
  IntKind.i64.wrap (IntKind.i64.wrap ((0 : Int) + (1 : Int)) + (1 : Int)) < (↑(3 : Nat) : Int)), Br (List.getD (List.getD (framesL.getD f.toNat (K.arr (3 : Nat) (K.arr (3 : Nat)
  (K.int IntKind.i64))).dflt) (IntKind.i64.wrap (IntKind.i64.wrap ((0 : Int) + (1 : Int)) + (1 : Int))).toNat (K.arr (3 : Nat) (K.int IntKind.i64)).dflt) (IntKind.i64.wrap
  (IntKind.i64.wrap ((0 : Int) + (1 : Int)) + (1 : Int))).toNat (0 : Int) == (1 : Int)) (∃ (h : True), ∃ (h : (0 : Int) ≤ IntKind.i64.wrap (IntKind.i64.wrap ((0 : Int) + (1 : Int))
  + (1 : Int)) ∧ IntKind.i64.wrap (IntKind.i64.wrap ((0 : Int) + (1 : Int)) + (1 : Int)) < (↑(3 : Nat) : Int) ∧ (3 : Nat) ≤ y.fst.length), HIs [HObj.box Md.rw ty72 [SV.val
  (Go.Value.float Go.FloatKind.f64 (0 : Nat)), SV.val (Go.Value.float Go.FloatKind.f64 (0 : Nat)), SV.val (Go.Value.float Go.FloatKind.f64 (0 : Nat))], HObj.row Md.rw ty98 (K.flt
  Go.FloatKind.f64) (y.fst.set (IntKind.i64.wrap (IntKind.i64.wrap ((0 : Int) + (1 : Int)) + (1 : Int))).toNat (canonR ([(4607182418800017408 : Nat), s, t].getD (IntKind.i64.wrap
  (IntKind.i64.wrap ((0 : Int) + (1 : Int)) + (1 : Int))).toNat (0 : Nat))).fst)] [HObj.box Md.rw ty72 [SV.val (Go.Value.float Go.FloatKind.f64 (0 : Nat)), SV.val (Go.Value.float
  Go.FloatKind.f64 (0 : Nat)), SV.val (Go.Value.float Go.FloatKind.f64 (0 : Nat))], HObj.row Md.rw ty98 (K.flt Go.FloatKind.f64) (y.fst.set (IntKind.i64.wrap (IntKind.i64.wrap ((0 :
  Int) + (1 : Int)) + (1 : Int))).toNat (canonR ([(4607182418800017408 : Nat), s, t].getD (IntKind.i64.wrap (IntKind.i64.wrap ((0 : Int) + (1 : Int)) + (1 : Int))).toNat (0 :
  Nat))).fst)] ∧ post_9 () (y.fst.set (IntKind.i64.wrap (IntKind.i64.wrap ((0 : Int) + (1 : Int)) + (1 : Int))).toNat (canonR ([(4607182418800017408 : Nat), s, t].getD
  (IntKind.i64.wrap (IntKind.i64.wrap ((0 : Int) + (1 : Int)) + (1 : Int))).toNat (0 : Nat))).fst, ())) (Br (List.getD (List.getD (framesL.getD f.toNat (K.arr (3 : Nat) (K.arr (3 :
  Nat) (K.int IntKind.i64))).dflt) (IntKind.i64.wrap (IntKind.i64.wrap ((0 : Int) + (1 : Int)) + (1 : Int))).toNat (K.arr (3 : Nat) (K.int IntKind.i64)).dflt) (IntKind.i64.wrap
  (IntKind.i64.wrap ((0 : Int) + (1 : Int)) + (1 : Int))).toNat (0 : Int) == (-1 : Int)) (∃ (h : True), ∃ (h : (0 : Int) ≤ IntKind.i64.wrap (IntKind.i64.wrap ((0 : Int) + (1 : Int))
  + (1 : Int)) ∧ IntKind.i64.wrap (IntKind.i64.wrap ((0 : Int) + (1 : Int)) + (1 : Int)) < (↑(3 : Nat) : Int) ∧ (3 : Nat) ≤ y.fst.length), HIs [HObj.box Md.rw ty72 [SV.val
  (Go.Value.float Go.FloatKind.f64 (0 : Nat)), SV.val (Go.Value.float Go.FloatKind.f64 (0 : Nat)), SV.val (Go.Value.float Go.FloatKind.f64 (0 : Nat))], HObj.row Md.rw ty98 (K.flt
  Go.FloatKind.f64) (y.fst.set (IntKind.i64.wrap (IntKind.i64.wrap ((0 : Int) + (1 : Int)) + (1 : Int))).toNat (canonR (Go.Op.negFloat Go.FloatKind.f64 ([(4607182418800017408 :
  Nat), s, t].getD (IntKind.i64.wrap (IntKind.i64.wrap ((0 : Int) + (1 : Int)) + (1 : Int))).toNat (0 : Nat)))).fst)] [HObj.box Md.rw ty72 [SV.val (Go.Value.float Go.FloatKind.f64
  (0 : Nat)), SV.val (Go.Value.float Go.FloatKind.f64 (0 : Nat)), SV.val (Go.Value.float Go.FloatKind.f64 (0 : Nat))], HObj.row Md.rw ty98 (K.flt Go.FloatKind.f64) (y.fst.set
  (IntKind.i64.wrap (IntKind.i64.wrap ((0 : Int) + (1 : Int)) + (1 : Int))).toNat (canonR (Go.Op.negFloat Go.FloatKind.f64 ([(4607182418800017408 : Nat), s, t].getD
  (IntKind.i64.wrap (IntKind.i64.wrap ((0 : Int) + (1 : Int)) + (1 : Int))).toNat (0 : Nat)))).fst)] ∧ post_9 () (y.fst.set (IntKind.i64.wrap (IntKind.i64.wrap ((0 : Int) + (1 :
  Int)) + (1 : Int))).toNat (canonR (Go.Op.negFloat Go.FloatKind.f64 ([(4607182418800017408 : Nat), s, t].getD (IntKind.i64.wrap (IntKind.i64.wrap ((0 : Int) + (1 : Int)) + (1 :
  Int))).toNat (0 : Nat)))).fst, ())) (HIs [HObj.box Md.rw ty72 [SV.val (Go.Value.float Go.FloatKind.f64 (0 : Nat)), SV.val (Go.Value.float Go.FloatKind.f64 (0 : Nat)), SV.val
  (Go.Value.float Go.FloatKind.f64 (0 : Nat))], HObj.row Md.rw ty98 (K.flt Go.FloatKind.f64) y.fst] [HObj.box Md.rw ty72 [SV.val (Go.Value.float Go.FloatKind.f64 (0 : Nat)), SV.val
  (Go.Value.float Go.FloatKind.f64 (0 : Nat)), SV.val (Go.Value.float Go.FloatKind.f64 (0 : Nat))], HObj.row Md.rw ty98 (K.flt Go.FloatKind.f64) y.fst] ∧ post_9 () (y.fst, ())))) ∧
  ∀ (x : Unit) (y : List Nat × Unit), post_9 x y → ∃ (h : (0 : Int) ≤ (0 : Int) ∧ (0 : Int) < (↑(3 : Nat) : Int) ∧ (3 : Nat) ≤ y.fst.length), ∃ (h : (0 : Int) ≤ (1 : Int) ∧ (1 :
  Int) < (↑(3 : Nat) : Int) ∧ (3 : Nat) ≤ y.fst.length), ∃ (h : (0 : Int) ≤ (2 : Int) ∧ (2 : Int) < (↑(3 : Nat) : Int) ∧ (3 : Nat) ≤ y.fst.length), ∃ (h : WV (y.fst.getD (Int.toNat
  (0 : Int)) (0 : Nat), y.fst.getD (Int.toNat (1 : Int)) (0 : Nat), y.fst.getD (Int.toNat (2 : Int)) (0 : Nat))), post (((unitR (y.fst.getD (Int.toNat (0 : Int)) (0 : Nat),
  y.fst.getD (Int.toNat (1 : Int)) (0 : Nat), y.fst.getD (Int.toNat (2 : Int)) (0 : Nat))).fst.fst, (unitR (y.fst.getD (Int.toNat (0 : Int)) (0 : Nat), y.fst.getD (Int.toNat (1 :
  Int)) (0 : Nat), y.fst.getD (Int.toNat (2 : Int)) (0 : Nat))).fst.snd.fst, (unitR (y.fst.getD (Int.toNat (0 : Int)) (0 : Nat), y.fst.getD (Int.toNat (1 : Int)) (0 : Nat),
  y.fst.getD (Int.toNat (2 : Int)) (0 : Nat))).fst.snd.snd), ())
theorem Lx_geom_point (ty0 ty1 : Nat) (f : Int) (s : Nat) (t : Nat) (h : WPoint f s t) : Fx_geom_point ty0 ty1 f s t (fun r => r = pointR f s t) := by
  obtain ⟨f0, f5, hs, ht⟩ := h
  have hfb : 0 ≤ f ∧ f < ((6 : Nat) : Int) := ⟨f0, by omega⟩
  refine ⟨fun _ y => y.1 = [(axisF (frameI f 0 0) (List.getD [(4607182418800017408 : Nat), s, t] (Int.toNat (0 : Int)) (0 : Nat)) 0), 0, 0], ⟨by decide, hfb, by decide, by decide, br_axis (m := (frameI f 0 0)) (v := (List.getD [(4607182418800017408 : Nat), s, t] (Int.toNat (0 : Int)) (0 : Nat))) (c := 0) (P := fun z => [z, 0, 0] = [(axisF (frameI f 0 0) (List.getD [(4607182418800017408 : Nat), s, t] (Int.toNat (0 : Int)) (0 : Nat)) 0), 0, 0]) rfl (fun e => ⟨trivial, ⟨by decide, by decide, Nat.le_refl 3⟩, rfl, e⟩) (fun e => ⟨trivial, ⟨by decide, by decide, Nat.le_refl 3⟩, rfl, e⟩) (fun e => ⟨rfl, e⟩)⟩, ?_⟩
  rintro ⟨⟩ ⟨_, ⟨⟩⟩ rfl
  refine ⟨fun _ y => y.1 = [(axisF (frameI f 1 0) s (axisF (frameI f 0 0) (List.getD [(4607182418800017408 : Nat), s, t] (Int.toNat (0 : Int)) (0 : Nat)) 0)), 0, 0], ⟨by decide, hfb, by decide, by decide, br_axis (m := (frameI f 1 0)) (v := s) (c := (axisF (frameI f 0 0) (List.getD [(4607182418800017408 : Nat), s, t] (Int.toNat (0 : Int)) (0 : Nat)) 0)) (P := fun z => [z, 0, 0] = [(axisF (frameI f 1 0) s (axisF (frameI f 0 0) (List.getD [(4607182418800017408 : Nat), s, t] (Int.toNat (0 : Int)) (0 : Nat)) 0)), 0, 0]) rfl (fun e => ⟨trivial, ⟨by decide, by decide, Nat.le_refl 3⟩, rfl, e⟩) (fun e => ⟨trivial, ⟨by decide, by decide, Nat.le_refl 3⟩, rfl, e⟩) (fun e => ⟨rfl, e⟩)⟩, ?_⟩
  rintro ⟨⟩ ⟨_, ⟨⟩⟩ rfl
  refine ⟨fun _ y => y.1 = [(axisF (frameI f 2 0) t (axisF (frameI f 1 0) s (axisF (frameI f 0 0) (List.getD [(4607182418800017408 : Nat), s, t] (Int.toNat (0 : Int)) (0 : Nat)) 0))), 0, 0], ⟨by decide, hfb, by decide, by decide, br_axis (m := (frameI f 2 0)) (v := t) (c := (axisF (frameI f 1 0) s (axisF (frameI f 0 0) (List.getD [(4607182418800017408 : Nat), s, t] (Int.toNat (0 : Int)) (0 : Nat)) 0))) (P := fun z => [z, 0, 0] = [(axisF (frameI f 2 0) t (axisF (frameI f 1 0) s (axisF (frameI f 0 0) (List.getD [(4607182418800017408 : Nat), s, t] (Int.toNat (0 : Int)) (0 : Nat)) 0))), 0, 0]) rfl (fun e => ⟨trivial, ⟨by decide, by decide, Nat.le_refl 3⟩, rfl, e⟩) (fun e => ⟨trivial, ⟨by decide, by decide, Nat.le_refl 3⟩, rfl, e⟩) (fun e => ⟨rfl, e⟩)⟩, ?_⟩
  rintro ⟨⟩ ⟨_, ⟨⟩⟩ rfl
  refine ⟨fun _ y => y.1 = [(axisF (frameI f 2 0) t (axisF (frameI f 1 0) s (axisF (frameI f 0 0) (List.getD [(4607182418800017408 : Nat), s, t] (Int.toNat (0 : Int)) (0 : Nat)) 0))), (axisF (frameI f 0 1) (List.getD [(4607182418800017408 : Nat), s, t] (Int.toNat (0 : Int)) (0 : Nat)) 0), 0], ⟨by decide, hfb, by decide, by decide, br_axis (m := (frameI f 0 1)) (v := (List.getD [(4607182418800017408 : Nat), s, t] (Int.toNat (0 : Int)) (0 : Nat))) (c := 0) (P := fun z => [(axisF (frameI f 2 0) t (axisF (frameI f 1 0) s (axisF (frameI f 0 0) (List.getD [(4607182418800017408 : Nat), s, t] (Int.toNat (0 : Int)) (0 : Nat)) 0))), z, 0] = [(axisF (frameI f 2 0) t (axisF (frameI f 1 0) s (axisF (frameI f 0 0) (List.getD [(4607182418800017408 : Nat), s, t] (Int.toNat (0 : Int)) (0 : Nat)) 0))), (axisF (frameI f 0 1) (List.getD [(4607182418800017408 : Nat), s, t] (Int.toNat (0 : Int)) (0 : Nat)) 0), 0]) rfl (fun e => ⟨trivial, ⟨by decide, by decide, Nat.le_refl 3⟩, rfl, e⟩) (fun e => ⟨trivial, ⟨by decide, by decide, Nat.le_refl 3⟩, rfl, e⟩) (fun e => ⟨rfl, e⟩)⟩, ?_⟩
  rintro ⟨⟩ ⟨_, ⟨⟩⟩ rfl
  refine ⟨fun _ y => y.1 = [(axisF (frameI f 2 0) t (axisF (frameI f 1 0) s (axisF (frameI f 0 0) (List.getD [(4607182418800017408 : Nat), s, t] (Int.toNat (0 : Int)) (0 : Nat)) 0))), (axisF (frameI f 1 1) s (axisF (frameI f 0 1) (List.getD [(4607182418800017408 : Nat), s, t] (Int.toNat (0 : Int)) (0 : Nat)) 0)), 0], ⟨by decide, hfb, by decide, by decide, br_axis (m := (frameI f 1 1)) (v := s) (c := (axisF (frameI f 0 1) (List.getD [(4607182418800017408 : Nat), s, t] (Int.toNat (0 : Int)) (0 : Nat)) 0)) (P := fun z => [(axisF (frameI f 2 0) t (axisF (frameI f 1 0) s (axisF (frameI f 0 0) (List.getD [(4607182418800017408 : Nat), s, t] (Int.toNat (0 : Int)) (0 : Nat)) 0))), z, 0] = [(axisF (frameI f 2 0) t (axisF (frameI f 1 0) s (axisF (frameI f 0 0) (List.getD [(4607182418800017408 : Nat), s, t] (Int.toNat (0 : Int)) (0 : Nat)) 0))), (axisF (frameI f 1 1) s (axisF (frameI f 0 1) (List.getD [(4607182418800017408 : Nat), s, t] (Int.toNat (0 : Int)) (0 : Nat)) 0)), 0]) rfl (fun e => ⟨trivial, ⟨by decide, by decide, Nat.le_refl 3⟩, rfl, e⟩) (fun e => ⟨trivial, ⟨by decide, by decide, Nat.le_refl 3⟩, rfl, e⟩) (fun e => ⟨rfl, e⟩)⟩, ?_⟩
  rintro ⟨⟩ ⟨_, ⟨⟩⟩ rfl
  refine ⟨fun _ y => y.1 = [(axisF (frameI f 2 0) t (axisF (frameI f 1 0) s (axisF (frameI f 0 0) (List.getD [(4607182418800017408 : Nat), s, t] (Int.toNat (0 : Int)) (0 : Nat)) 0))), (axisF (frameI f 2 1) t (axisF (frameI f 1 1) s (axisF (frameI f 0 1) (List.getD [(4607182418800017408 : Nat), s, t] (Int.toNat (0 : Int)) (0 : Nat)) 0))), 0], ⟨by decide, hfb, by decide, by decide, br_axis (m := (frameI f 2 1)) (v := t) (c := (axisF (frameI f 1 1) s (axisF (frameI f 0 1) (List.getD [(4607182418800017408 : Nat), s, t] (Int.toNat (0 : Int)) (0 : Nat)) 0))) (P := fun z => [(axisF (frameI f 2 0) t (axisF (frameI f 1 0) s (axisF (frameI f 0 0) (List.getD [(4607182418800017408 : Nat), s, t] (Int.toNat (0 : Int)) (0 : Nat)) 0))), z, 0] = [(axisF (frameI f 2 0) t (axisF (frameI f 1 0) s (axisF (frameI f 0 0) (List.getD [(4607182418800017408 : Nat), s, t] (Int.toNat (0 : Int)) (0 : Nat)) 0))), (axisF (frameI f 2 1) t (axisF (frameI f 1 1) s (axisF (frameI f 0 1) (List.getD [(4607182418800017408 : Nat), s, t] (Int.toNat (0 : Int)) (0 : Nat)) 0))), 0]) rfl (fun e => ⟨trivial, ⟨by decide, by decide, Nat.le_refl 3⟩, rfl, e⟩) (fun e => ⟨trivial, ⟨by decide, by decide, Nat.le_refl 3⟩, rfl, e⟩) (fun e => ⟨rfl, e⟩)⟩, ?_⟩
  rintro ⟨⟩ ⟨_, ⟨⟩⟩ rfl
  refine ⟨fun _ y => y.1 = [(axisF (frameI f 2 0) t (axisF (frameI f 1 0) s (axisF (frameI f 0 0) (List.getD [(4607182418800017408 : Nat), s, t] (Int.toNat (0 : Int)) (0 : Nat)) 0))), (axisF (frameI f 2 1) t (axisF (frameI f 1 1) s (axisF (frameI f 0 1) (List.getD [(4607182418800017408 : Nat), s, t] (Int.toNat (0 : Int)) (0 : Nat)) 0))), (axisF (frameI f 0 2) (List.getD [(4607182418800017408 : Nat), s, t] (Int.toNat (0 : Int)) (0 : Nat)) 0)], ⟨by decide, hfb, by decide, by decide, br_axis (m := (frameI f 0 2)) (v := (List.getD [(4607182418800017408 : Nat), s, t] (Int.toNat (0 : Int)) (0 : Nat))) (c := 0) (P := fun z => [(axisF (frameI f 2 0) t (axisF (frameI f 1 0) s (axisF (frameI f 0 0) (List.getD [(4607182418800017408 : Nat), s, t] (Int.toNat (0 : Int)) (0 : Nat)) 0))), (axisF (frameI f 2 1) t (axisF (frameI f 1 1) s (axisF (frameI f 0 1) (List.getD [(4607182418800017408 : Nat), s, t] (Int.toNat (0 : Int)) (0 : Nat)) 0))), z] = [(axisF (frameI f 2 0) t (axisF (frameI f 1 0) s (axisF (frameI f 0 0) (List.getD [(4607182418800017408 : Nat), s, t] (Int.toNat (0 : Int)) (0 : Nat)) 0))), (axisF (frameI f 2 1) t (axisF (frameI f 1 1) s (axisF (frameI f 0 1) (List.getD [(4607182418800017408 : Nat), s, t] (Int.toNat (0 : Int)) (0 : Nat)) 0))), (axisF (frameI f 0 2) (List.getD [(4607182418800017408 : Nat), s, t] (Int.toNat (0 : Int)) (0 : Nat)) 0)]) rfl (fun e => ⟨trivial, ⟨by decide, by decide, Nat.le_refl 3⟩, rfl, e⟩) (fun e => ⟨trivial, ⟨by decide, by decide, Nat.le_refl 3⟩, rfl, e⟩) (fun e => ⟨rfl, e⟩)⟩, ?_⟩
  rintro ⟨⟩ ⟨_, ⟨⟩⟩ rfl
  refine ⟨fun _ y => y.1 = [(axisF (frameI f 2 0) t (axisF (frameI f 1 0) s (axisF (frameI f 0 0) (List.getD [(4607182418800017408 : Nat), s, t] (Int.toNat (0 : Int)) (0 : Nat)) 0))), (axisF (frameI f 2 1) t (axisF (frameI f 1 1) s (axisF (frameI f 0 1) (List.getD [(4607182418800017408 : Nat), s, t] (Int.toNat (0 : Int)) (0 : Nat)) 0))), (axisF (frameI f 1 2) s (axisF (frameI f 0 2) (List.getD [(4607182418800017408 : Nat), s, t] (Int.toNat (0 : Int)) (0 : Nat)) 0))], ⟨by decide, hfb, by decide, by decide, br_axis (m := (frameI f 1 2)) (v := s) (c := (axisF (frameI f 0 2) (List.getD [(4607182418800017408 : Nat), s, t] (Int.toNat (0 : Int)) (0 : Nat)) 0)) (P := fun z => [(axisF (frameI f 2 0) t (axisF (frameI f 1 0) s (axisF (frameI f 0 0) (List.getD [(4607182418800017408 : Nat), s, t] (Int.toNat (0 : Int)) (0 : Nat)) 0))), (axisF (frameI f 2 1) t (axisF (frameI f 1 1) s (axisF (frameI f 0 1) (List.getD [(4607182418800017408 : Nat), s, t] (Int.toNat (0 : Int)) (0 : Nat)) 0))), z] = [(axisF (frameI f 2 0) t (axisF (frameI f 1 0) s (axisF (frameI f 0 0) (List.getD [(4607182418800017408 : Nat), s, t] (Int.toNat (0 : Int)) (0 : Nat)) 0))), (axisF (frameI f 2 1) t (axisF (frameI f 1 1) s (axisF (frameI f 0 1) (List.getD [(4607182418800017408 : Nat), s, t] (Int.toNat (0 : Int)) (0 : Nat)) 0))), (axisF (frameI f 1 2) s (axisF (frameI f 0 2) (List.getD [(4607182418800017408 : Nat), s, t] (Int.toNat (0 : Int)) (0 : Nat)) 0))]) rfl (fun e => ⟨trivial, ⟨by decide, by decide, Nat.le_refl 3⟩, rfl, e⟩) (fun e => ⟨trivial, ⟨by decide, by decide, Nat.le_refl 3⟩, rfl, e⟩) (fun e => ⟨rfl, e⟩)⟩, ?_⟩
  rintro ⟨⟩ ⟨_, ⟨⟩⟩ rfl
  refine ⟨fun _ y => y.1 = [(axisF (frameI f 2 0) t (axisF (frameI f 1 0) s (axisF (frameI f 0 0) (List.getD [(4607182418800017408 : Nat), s, t] (Int.toNat (0 : Int)) (0 : Nat)) 0))), (axisF (frameI f 2 1) t (axisF (frameI f 1 1) s (axisF (frameI f 0 1) (List.getD [(4607182418800017408 : Nat), s, t] (Int.toNat (0 : Int)) (0 : Nat)) 0))), (axisF (frameI f 2 2) t (axisF (frameI f 1 2) s (axisF (frameI f 0 2) (List.getD [(4607182418800017408 : Nat), s, t] (Int.toNat (0 : Int)) (0 : Nat)) 0)))], ⟨by decide, hfb, by decide, by decide, br_axis (m := (frameI f 2 2)) (v := t) (c := (axisF (frameI f 1 2) s (axisF (frameI f 0 2) (List.getD [(4607182418800017408 : Nat), s, t] (Int.toNat (0 : Int)) (0 : Nat)) 0))) (P := fun z => [(axisF (frameI f 2 0) t (axisF (frameI f 1 0) s (axisF (frameI f 0 0) (List.getD [(4607182418800017408 : Nat), s, t] (Int.toNat (0 : Int)) (0 : Nat)) 0))), (axisF (frameI f 2 1) t (axisF (frameI f 1 1) s (axisF (frameI f 0 1) (List.getD [(4607182418800017408 : Nat), s, t] (Int.toNat (0 : Int)) (0 : Nat)) 0))), z] = [(axisF (frameI f 2 0) t (axisF (frameI f 1 0) s (axisF (frameI f 0 0) (List.getD [(4607182418800017408 : Nat), s, t] (Int.toNat (0 : Int)) (0 : Nat)) 0))), (axisF (frameI f 2 1) t (axisF (frameI f 1 1) s (axisF (frameI f 0 1) (List.getD [(4607182418800017408 : Nat), s, t] (Int.toNat (0 : Int)) (0 : Nat)) 0))), (axisF (frameI f 2 2) t (axisF (frameI f 1 2) s (axisF (frameI f 0 2) (List.getD [(4607182418800017408 : Nat), s, t] (Int.toNat (0 : Int)) (0 : Nat)) 0)))]) rfl (fun e => ⟨trivial, ⟨by decide, by decide, Nat.le_refl 3⟩, rfl, e⟩) (fun e => ⟨trivial, ⟨by decide, by decide, Nat.le_refl 3⟩, rfl, e⟩) (fun e => ⟨rfl, e⟩)⟩, ?_⟩
  rintro ⟨⟩ ⟨_, ⟨⟩⟩ rfl
  refine ⟨⟨by decide, by decide, Nat.le_refl 3⟩, ⟨by decide, by decide, Nat.le_refl 3⟩, ⟨by decide, by decide, Nat.le_refl 3⟩, ⟨axisP_w f hs ht 0, axisP_w f hs ht 1, axisP_w f hs ht 2⟩, rfl⟩
def Fx_geom_Corner := fun (n f i j : Int) (post : (Nat × Nat × Nat) × Bool × Unit → Prop) => ∃ (h : I64 n), ∀ (a : Bool), a = ((cellsR n).fst == (0 : Int)) → Br a (post (((0 : Nat),
  (0 : Nat), (0 : Nat)), Bool.false, ())) (∀ (a : Bool), a = decide (f < (0 : Int)) → Br a (post (((0 : Nat), (0 : Nat), (0 : Nat)), Bool.false, ())) (∀ (a : Bool), a = decide (f >
  (5 : Int)) → Br a (post (((0 : Nat), (0 : Nat), (0 : Nat)), Bool.false, ())) (∀ (a : Bool), a = decide (i < (0 : Int)) → Br a (post (((0 : Nat), (0 : Nat), (0 : Nat)), Bool.false,
  ())) (∀ (a : Bool), a = decide (i > n) → Br a (post (((0 : Nat), (0 : Nat), (0 : Nat)), Bool.false, ())) (∀ (a : Bool), a = decide (j < (0 : Int)) → Br a (post (((0 : Nat), (0 :
  Nat), (0 : Nat)), Bool.false, ())) (∀ (a : Bool), a = decide (j > n) → Br a (post (((0 : Nat), (0 : Nat), (0 : Nat)), Bool.false, ())) (∃ (h : WRatio (IntKind.i64.wrap
  (IntKind.i64.wrap ((2 : Int) * i) - n)) n), ∃ (h : WRatio (IntKind.i64.wrap (IntKind.i64.wrap ((2 : Int) * j) - n)) n), ∃ (h : WPoint f (ratioR (IntKind.i64.wrap (IntKind.i64.wrap
  ((2 : Int) * i) - n)) n).fst (ratioR (IntKind.i64.wrap (IntKind.i64.wrap ((2 : Int) * j) - n)) n).fst), post (((pointR f (ratioR (IntKind.i64.wrap (IntKind.i64.wrap ((2 : Int) *
  i) - n)) n).fst (ratioR (IntKind.i64.wrap (IntKind.i64.wrap ((2 : Int) * j) - n)) n).fst).fst.fst, (pointR f (ratioR (IntKind.i64.wrap (IntKind.i64.wrap ((2 : Int) * i) - n))
  n).fst (ratioR (IntKind.i64.wrap (IntKind.i64.wrap ((2 : Int) * j) - n)) n).fst).fst.snd.fst, (pointR f (ratioR (IntKind.i64.wrap (IntKind.i64.wrap ((2 : Int) * i) - n)) n).fst
  (ratioR (IntKind.i64.wrap (IntKind.i64.wrap ((2 : Int) * j) - n)) n).fst).fst.snd.snd), Bool.true, ()))))))))
theorem Lx_geom_Corner (n : Int) (f : Int) (i : Int) (j : Int) (h : IIII n f i j) : Fx_geom_Corner  n f i j (fun r => r = cornerR n f i j) := by
  obtain ⟨hn, hf, hi, hj⟩ := h
  have bad : cornerOk n f i j = false → (((0 : Nat), (0 : Nat), (0 : Nat)), false, ()) = cornerR n f i j := by
    intro e; unfold cornerR; rw [if_neg (by rw [e]; decide)]
  refine ⟨hn, ?_⟩
  rintro _ rfl
  refine Br.intro (fun e => ?_) fun e0 => ?_
  · have e : cellsI n = 0 := by have e : (cellsI n == 0) = true := e; simpa using e
    refine bad ?_
    cases hg : goodC n with
    | false => unfold cornerOk; rw [hg]; rfl
    | true => rw [cells_good hg] at e; have := sq_bd (goodC_iff.1 hg).1 (goodC_iff.1 hg).2; omega
  have e0 : ¬ cellsI n = 0 := by have e : (cellsI n == 0) = false := e0; simpa using e
  have hg : goodC n = true := by
    cases hg : goodC n with
    | false => exact absurd (cells_bad hg) e0
    | true => rfl
  obtain ⟨n1, n2⟩ := goodC_iff.1 hg
  have no : ¬ (0 ≤ f ∧ f ≤ 5 ∧ 0 ≤ i ∧ i ≤ n ∧ 0 ≤ j ∧ j ≤ n) → cornerOk n f i j = false := by
    intro q
    rw [Bool.eq_false_iff]
    intro w
    unfold cornerOk at w
    simp only [Bool.and_eq_true, decide_eq_true_eq] at w
    omega
  rintro _ rfl
  refine Br.intro (fun e => bad (no (by have e := of_decide_eq_true e; omega))) fun e1 => ?_
  have e1 := of_decide_eq_false e1
  rintro _ rfl
  refine Br.intro (fun e => bad (no (by have e := of_decide_eq_true e; omega))) fun e2 => ?_
  have e2 := of_decide_eq_false e2
  rintro _ rfl
  refine Br.intro (fun e => bad (no (by have e := of_decide_eq_true e; omega))) fun e3 => ?_
  have e3 := of_decide_eq_false e3
  rintro _ rfl
  refine Br.intro (fun e => bad (no (by have e := of_decide_eq_true e; omega))) fun e4 => ?_
  have e4 := of_decide_eq_false e4
  rintro _ rfl
  refine Br.intro (fun e => bad (no (by have e := of_decide_eq_true e; omega))) fun e5 => ?_
  have e5 := of_decide_eq_false e5
  rintro _ rfl
  refine Br.intro (fun e => bad (no (by have e := of_decide_eq_true e; omega))) fun e6 => ?_
  have e6 := of_decide_eq_false e6
  obtain ⟨w1, w2⟩ := ratio_wrap n1 n2 (i := i) (by omega) (by omega)
  obtain ⟨w3, w4⟩ := ratio_wrap n1 n2 (i := j) (by omega) (by omega)
  rw [w1, w3]
  refine ⟨w2, w4, ⟨by omega, by omega, divQF_w _ _, divQF_w _ _⟩, ?_⟩
  have ok : cornerOk n f i j = true := by
    unfold cornerOk
    rw [hg, decide_eq_true (by omega), decide_eq_true (by omega), decide_eq_true (by omega), decide_eq_true (by omega), decide_eq_true (by omega), decide_eq_true (by omega)]
    rfl
  unfold cornerR; rw [if_pos ok]; rfl
def Fx_geom_corners := fun (n c : Int) (post : List (Nat × Nat × Nat) × Bool × Unit → Prop) => ∃ (h : II n c), Br (!(placeR4 n c).snd.snd.snd.fst) (∃ (h : (List.replicate (4 : Nat)
  ((K.flt Go.FloatKind.f64).pair ((K.flt Go.FloatKind.f64).pair (K.flt Go.FloatKind.f64))).dflt).length = (4 : Nat) ∧ (4 : Nat) = (4 : Nat)), ∃ (h : (4 : Nat) = (4 : Nat)), post
  ([((0 : Nat), (0 : Nat), (0 : Nat)), ((0 : Nat), (0 : Nat), (0 : Nat)), ((0 : Nat), (0 : Nat), (0 : Nat)), ((0 : Nat), (0 : Nat), (0 : Nat))], Bool.false, ())) (∃ (h : (0 : Int) ≤
  (0 : Int) ∧ (0 : Int) < (↑(4 : Nat) : Int)), ∃ (h : (List.replicate (2 : Nat) (0 : Int)).length = (2 : Nat) ∧ List.length ([[(0 : Int), (0 : Int)], [(1 : Int), (0 : Int)], [(1 :
  Int), (1 : Int)], [(0 : Int), (1 : Int)]].getD (Int.toNat (0 : Int)) (K.arr (2 : Nat) (K.int IntKind.i64)).dflt) = (2 : Nat)), ∃ (h : (0 : Int) ≤ (0 : Int) ∧ (0 : Int) < (↑(2 :
  Nat) : Int) ∧ (2 : Nat) ≤ List.length ([[(0 : Int), (0 : Int)], [(1 : Int), (0 : Int)], [(1 : Int), (1 : Int)], [(0 : Int), (1 : Int)]].getD (Int.toNat (0 : Int)) (K.arr (2 : Nat)
  (K.int IntKind.i64)).dflt)), ∃ (h : (0 : Int) ≤ (1 : Int) ∧ (1 : Int) < (↑(2 : Nat) : Int) ∧ (2 : Nat) ≤ List.length ([[(0 : Int), (0 : Int)], [(1 : Int), (0 : Int)], [(1 : Int),
  (1 : Int)], [(0 : Int), (1 : Int)]].getD (Int.toNat (0 : Int)) (K.arr (2 : Nat) (K.int IntKind.i64)).dflt)), ∃ (h : IIII n (placeR4 n c).fst (IntKind.i64.wrap ((placeR4 n
  c).snd.fst + List.getD ([[(0 : Int), (0 : Int)], [(1 : Int), (0 : Int)], [(1 : Int), (1 : Int)], [(0 : Int), (1 : Int)]].getD (Int.toNat (0 : Int)) (K.arr (2 : Nat) (K.int
  IntKind.i64)).dflt) (Int.toNat (0 : Int)) (0 : Int))) (IntKind.i64.wrap ((placeR4 n c).snd.snd.fst + List.getD ([[(0 : Int), (0 : Int)], [(1 : Int), (0 : Int)], [(1 : Int), (1 :
  Int)], [(0 : Int), (1 : Int)]].getD (Int.toNat (0 : Int)) (K.arr (2 : Nat) (K.int IntKind.i64)).dflt) (Int.toNat (1 : Int)) (0 : Int)))), ∃ (h : (0 : Int) ≤ (0 : Int) ∧ (0 : Int)
  < (↑(4 : Nat) : Int) ∧ (4 : Nat) ≤ (List.replicate (4 : Nat) ((K.flt Go.FloatKind.f64).pair ((K.flt Go.FloatKind.f64).pair (K.flt Go.FloatKind.f64))).dflt).length), ∃ (h : (0 :
  Int) ≤ IntKind.i64.wrap ((0 : Int) + (1 : Int)) ∧ IntKind.i64.wrap ((0 : Int) + (1 : Int)) < (↑(4 : Nat) : Int)), ∃ (h : (List.replicate (2 : Nat) (0 : Int)).length = (2 : Nat) ∧
  List.length ([[(0 : Int), (0 : Int)], [(1 : Int), (0 : Int)], [(1 : Int), (1 : Int)], [(0 : Int), (1 : Int)]].getD (IntKind.i64.wrap ((0 : Int) + (1 : Int))).toNat (K.arr (2 :
  Nat) (K.int IntKind.i64)).dflt) = (2 : Nat)), ∃ (h : (0 : Int) ≤ (0 : Int) ∧ (0 : Int) < (↑(2 : Nat) : Int) ∧ (2 : Nat) ≤ List.length ([[(0 : Int), (0 : Int)], [(1 : Int), (0 :
  Int)], [(1 : Int), (1 : Int)], [(0 : Int), (1 : Int)]].getD (IntKind.i64.wrap ((0 : Int) + (1 : Int))).toNat (K.arr (2 : Nat) (K.int IntKind.i64)).dflt)), ∃ (h : (0 : Int) ≤ (1 :
  Int) ∧ (1 : Int) < (↑(2 : Nat) : Int) ∧ (2 : Nat) ≤ List.length ([[(0 : Int), (0 : Int)], [(1 : Int), (0 : Int)], [(1 : Int), (1 : Int)], [(0 : Int), (1 : Int)]].getD
  (IntKind.i64.wrap ((0 : Int) + (1 : Int))).toNat (K.arr (2 : Nat) (K.int IntKind.i64)).dflt)), ∃ (h : IIII n (placeR4 n c).fst (IntKind.i64.wrap ((placeR4 n c).snd.fst + List.getD
  ([[(0 : Int), (0 : Int)], [(1 : Int), (0 : Int)], [(1 : Int), (1 : Int)], [(0 : Int), (1 : Int)]].getD (IntKind.i64.wrap ((0 : Int) + (1 : Int))).toNat (K.arr (2 : Nat) (K.int
  IntKind.i64)).dflt) (Int.toNat (0 : Int)) (0 : Int))) (IntKind.i64.wrap ((placeR4 n c).snd.snd.fst + List.getD ([[(0 : Int), (0 : Int)], [(1 : Int), (0 : Int)], [(1 : Int), (1 :
  Int)], [(0 : Int), (1 : Int)]].getD (IntKind.i64.wrap ((0 : Int) + (1 : Int))).toNat (K.arr (2 : Nat) (K.int IntKind.i64)).dflt) (Int.toNat (1 : Int)) (0 : Int)))), ∃ (h : (0 :
  Int) ≤ IntKind.i64.wrap ((0 : Int) + (1 : Int)) ∧ IntKind.i64.wrap ((0 : Int) + (1 : Int)) < (↑(4 : Nat) : Int) ∧ (4 : Nat) ≤ ((List.replicate (4 : Nat) ((K.flt
  Go.FloatKind.f64).pair ((K.flt Go.FloatKind.f64).pair (K.flt Go.FloatKind.f64))).dflt).set (Int.toNat (0 : Int)) (cornerR n (placeR4 n c).fst (IntKind.i64.wrap ((placeR4 n
  c).snd.fst + List.getD ([[(0 : Int), (0 : Int)], [(1 : Int), (0 : Int)], [(1 : Int), (1 : Int)], [(0 : Int), (1 : Int)]].getD (Int.toNat (0 : Int)) (K.arr (2 : Nat) (K.int
  IntKind.i64)).dflt) (Int.toNat (0 : Int)) (0 : Int))) (IntKind.i64.wrap ((placeR4 n c).snd.snd.fst + List.getD ([[(0 : Int), (0 : Int)], [(1 : Int), (0 : Int)], [(1 : Int), (1 :
  Int)], [(0 : Int), (1 : Int)]].getD (Int.toNat (0 : Int)) (K.arr (2 : Nat) (K.int IntKind.i64)).dflt) (Int.toNat (1 : Int)) (0 : Int)))).fst).length), ∃ (h : (0 : Int) ≤
  IntKind.i64.wrap (IntKind.i64.wrap ((0 : Int) + (1 : Int)) + (1 : Int)) ∧ IntKind.i64.wrap (IntKind.i64.wrap ((0 : Int) + (1 : Int)) + (1 : Int)) < (↑(4 : Nat) : Int)), ∃ (h :
  (List.replicate (2 : Nat) (0 : Int)).length = (2 : Nat) ∧ List.length ([[(0 : Int), (0 : Int)], [(1 : Int), (0 : Int)], [(1 : Int), (1 : Int)], [(0 : Int), (1 : Int)]].getD
  (IntKind.i64.wrap (IntKind.i64.wrap ((0 : Int) + (1 : Int)) + (1 : Int))).toNat (K.arr (2 : Nat) (K.int IntKind.i64)).dflt) = (2 : Nat)), ∃ (h : (0 : Int) ≤ (0 : Int) ∧ (0 : Int)
  < (↑(2 : Nat) : Int) ∧ (2 : Nat) ≤ List.length ([[(0 : Int), (0 : Int)], [(1 : Int), (0 : Int)], [(1 : Int), (1 : Int)], [(0 : Int), (1 : Int)]].getD (IntKind.i64.wrap
  (IntKind.i64.wrap ((0 : Int) + (1 : Int)) + (1 : Int))).toNat (K.arr (2 : Nat) (K.int IntKind.i64)).dflt)), ∃ (h : (0 : Int) ≤ (1 : Int) ∧ (1 : Int) < (↑(2 : Nat) : Int) ∧ (2 :
  Nat) ≤ List.length ([[(0 : Int), (0 : Int)], [(1 : Int), (0 : Int)], [(1 : Int), (1 : Int)], [(0 : Int), (1 : Int)]].getD (IntKind.i64.wrap (IntKind.i64.wrap ((0 : Int) + (1 :
  Int)) + (1 : Int))).toNat (K.arr (2 : Nat) (K.int IntKind.i64)).dflt)), ∃ (h : IIII n (placeR4 n c).fst (IntKind.i64.wrap ((placeR4 n c).snd.fst + List.getD ([[(0 : Int), (0 :
  Int)], [(1 : Int), (0 : Int)], [(1 : Int), (1 : Int)], [(0 : Int), (1 : Int)]].getD (IntKind.i64.wrap (IntKind.i64.wrap ((0 : Int) + (1 : Int)) + (1 : Int))).toNat (K.arr (2 :
  Nat) (K.int IntKind.i64)).dflt) (Int.toNat (0 : Int)) (0 : Int))) (IntKind.i64.wrap ((placeR4 n c).snd.snd.fst + List.getD ([[(0 : Int), (0 : Int)], [(1 : Int), (0 : Int)], [(1 :
  Int), (1 : Int)], [(0 : Int), (1 : Int)]].getD (IntKind.i64.wrap (IntKind.i64.wrap ((0 : Int) + (1 : Int)) + (1 : Int))).toNat (K.arr (2 : Nat) (K.int IntKind.i64)).dflt)
  (Int.toNat (1 : Int)) (0 : Int)))), ∃ (h : (0 : Int) ≤ IntKind.i64.wrap (IntKind.i64.wrap ((0 : Int) + (1 : Int)) + (1 : Int)) ∧ IntKind.i64.wrap (IntKind.i64.wrap ((0 : Int) + (1
  : Int)) + (1 : Int)) < (↑(4 : Nat) : Int) ∧ (4 : Nat) ≤ (((List.replicate (4 : Nat) ((K.flt Go.FloatKind.f64).pair ((K.flt Go.FloatKind.f64).pair (K.flt
  Go.FloatKind.f64))).dflt).set (Int.toNat (0 : Int)) (cornerR n (placeR4 n c).fst (IntKind.i64.wrap ((placeR4 n c).snd.fst + List.getD ([[(0 : Int), (0 : Int)], [(1 : Int), (0 :
  Int)], [(1 : Int), (1 : Int)], [(0 : Int), (1 : Int)]].getD (Int.toNat (0 : Int)) (K.arr (2 : Nat) (K.int IntKind.i64)).dflt) (Int.toNat (0 : Int)) (0 : Int))) (IntKind.i64.wrap
  ((placeR4 n c).snd.snd.fst + List.getD ([[(0 : Int), (0 : Int)], [(1 : Int), (0 : Int)], [(1 : Int), (1 : Int)], [(0 : Int), (1 : Int)]].getD (Int.toNat (0 : Int)) (K.arr (2 :
  Nat) (K.int IntKind.i64)).dflt) (Int.toNat (1 : Int)) (0 : Int)))).fst).set (IntKind.i64.wrap ((0 : Int) + (1 : Int))).toNat (cornerR n (placeR4 n c).fst (IntKind.i64.wrap
  ((placeR4 n c).snd.fst + List.getD ([[(0 : Int), (0 : Int)], [(1 : Int), (0 : Int)], [(1 : Int), (1 : Int)], [(0 : Int), (1 : Int)]].getD (IntKind.i64.wrap ((0 : Int) + (1 :
  Int))).toNat (K.arr (2 : Nat) (K.int IntKind.i64)).dflt) (Int.toNat (0 : Int)) (0 : Int))) (IntKind.i64.wrap ((placeR4 n c).snd.snd.fst + List.getD ([[(0 : Int), (0 : Int)], [(1 :
  Int), (0 : Int)], [(1 : Int), (1 : Int)], [(0 : Int), (1 : Int)]].getD (IntKind.i64.wrap ((0 : Int) + (1 : Int))).toNat (K.arr (2 : Nat) (K.int IntKind.i64)).dflt) (Int.toNat (1 :
  Int)) (0 : Int)))).fst).length), ∃ (h : (0 : Int) ≤ IntKind.i64.wrap (IntKind.i64.wrap (IntKind.i64.wrap ((0 : Int) + (1 : Int)) + (1 : Int)) + (1 : Int)) ∧ IntKind.i64.wrap
  (IntKind.i64.wrap (IntKind.i64.wrap ((0 : Int) + (1 : Int)) + (1 : Int)) + (1 : Int)) < (↑(4 : Nat) : Int)), ∃ (h : (List.replicate (2 : Nat) (0 : Int)).length = (2 : Nat) ∧
  List.length ([[(0 : Int), (0 : Int)], [(1 : Int), (0 : Int)], [(1 : Int), (1 : Int)], [(0 : Int), (1 : Int)]].getD (IntKind.i64.wrap (IntKind.i64.wrap (IntKind.i64.wrap ((0 : Int)
  + (1 : Int)) + (1 : Int)) + (1 : Int))).toNat (K.arr (2 : Nat) (K.int IntKind.i64)).dflt) = (2 : Nat)), ∃ (h : (0 : Int) ≤ (0 : Int) ∧ (0 : Int) < (↑(2 : Nat) : Int) ∧ (2 : Nat) ≤
  List.length ([[(0 : Int), (0 : Int)], [(1 : Int), (0 : Int)], [(1 : Int), (1 : Int)], [(0 : Int), (1 : Int)]].getD (IntKind.i64.wrap (IntKind.i64.wrap (IntKind.i64.wrap ((0 : Int)
  + (1 : Int)) + (1 : Int)) + (1 : Int))).toNat (K.arr (2 : Nat) (K.int IntKind.i64)).dflt)), ∃ (h : (0 : Int) ≤ (1 : Int) ∧ (1 : Int) < (↑(2 : Nat) : Int) ∧ (2 : Nat) ≤ List.length
  ([[(0 : Int), (0 : Int)], [(1 : Int), (0 : Int)], [(1 : Int), (1 : Int)], [(0 : Int), (1 : Int)]].getD (IntKind.i64.wrap (IntKind.i64.wrap (IntKind.i64.wrap ((0 : Int) + (1 :
  Int)) + (1 : Int)) + (1 : Int))).toNat (K.arr (2 : Nat) (K.int IntKind.i64)).dflt)), ∃ (h : IIII n (placeR4 n c).fst (IntKind.i64.wrap ((placeR4 n c).snd.fst + List.getD ([[(0 :
  Int), (0 : Int)], [(1 : Int), (0 : Int)], [(1 : Int), (1 : Int)], [(0 : Int), (1 : Int)]].getD (IntKind.i64.wrap (IntKind.i64.wrap (IntKind.i64.wrap ((0 : Int) + (1 : Int)) + (1 :
  Int)) + (1 : Int))).toNat (K.arr (2 : Nat) (K.int IntKind.i64)).dflt) (Int.toNat (0 : Int)) (0 : Int))) (IntKind.i64.wrap ((placeR4 n c).snd.snd.fst + List.getD ([[(0 : Int), (0 :
  Int)], [(1 : Int), (0 : Int)], [(1 : Int), (1 : Int)], [(0 : Int), (1 : Int)]].getD (IntKind.i64.wrap (IntKind.i64.wrap (IntKind.i64.wrap ((0 : Int) + (1 : Int)) + (1 : Int)) + (1
  : Int))).toNat (K.arr (2 : Nat) (K.int IntKind.i64)).dflt) (Int.toNat (1 : Int)) (0 : Int)))), ∃ (h : (0 : Int) ≤ IntKind.i64.wrap (IntKind.i64.wrap (IntKind.i64.wrap ((0 : Int) +
  (1 : Int)) + (1 : Int)) + (1 : Int)) ∧ IntKind.i64.wrap (IntKind.i64.wrap (IntKind.i64.wrap ((0 : Int) + (1 : Int)) + (1 : Int)) + (1 : Int)) < (↑(4 : Nat) : Int) ∧ (4 : Nat) ≤
  ((((List.replicate (4 : Nat) ((K.flt Go.FloatKind.f64).pair ((K.flt Go.FloatKind.f64).pair (K.flt Go.FloatKind.f64))).dflt).set (Int.toNat (0 : Int)) (cornerR n (placeR4 n c).fst
  (IntKind.i64.wrap ((placeR4 n c).snd.fst + List.getD ([[(0 : Int), (0 : Int)], [(1 : Int), (0 : Int)], [(1 : Int), (1 : Int)], [(0 : Int), (1 : Int)]].getD (Int.toNat (0 : Int))
  (K.arr (2 : Nat) (K.int IntKind.i64)).dflt) (Int.toNat (0 : Int)) (0 : Int))) (IntKind.i64.wrap ((placeR4 n c).snd.snd.fst + List.getD ([[(0 : Int), (0 : Int)], [(1 : Int), (0 :
  Int)], [(1 : Int), (1 : Int)], [(0 : Int), (1 : Int)]].getD (Int.toNat (0 : Int)) (K.arr (2 : Nat) (K.int IntKind.i64)).dflt) (Int.toNat (1 : Int)) (0 : Int)))).fst).set
  (IntKind.i64.wrap ((0 : Int) + (1 : Int))).toNat (cornerR n (placeR4 n c).fst (IntKind.i64.wrap ((placeR4 n c).snd.fst + List.getD ([[(0 : Int), (0 : Int)], [(1 : Int), (0 :
  Int)], [(1 : Int), (1 : Int)], [(0 : Int), (1 : Int)]].getD (IntKind.i64.wrap ((0 : Int) + (1 : Int))).toNat (K.arr (2 : Nat) (K.int IntKind.i64)).dflt) (Int.toNat (0 : Int)) (0 :
  Int))) (IntKind.i64.wrap ((placeR4 n c).snd.snd.fst + List.getD ([[(0 : Int), (0 : Int)], [(1 : Int), (0 : Int)], [(1 : Int), (1 : Int)], [(0 : Int), (1 : Int)]].getD
  (IntKind.i64.wrap ((0 : Int) + (1 : Int))).toNat (K.arr (2 : Nat) (K.int IntKind.i64)).dflt) (Int.toNat (1 : Int)) (0 : Int)))).fst).set (IntKind.i64.wrap (IntKind.i64.wrap ((0 :
  Int) + (1 : Int)) + (1 : Int))).toNat (cornerR n (placeR4 n c).fst (IntKind.i64.wrap ((placeR4 n c).snd.fst + List.getD ([[(0 : Int), (0 : Int)], [(1 : Int), (0 : Int)], [(1 :
  Int), (1 : Int)], [(0 : Int), (1 : Int)]].getD (IntKind.i64.wrap (IntKind.i64.wrap ((0 : Int) + (1 : Int)) + (1 : Int))).toNat (K.arr (2 : Nat) (K.int IntKind.i64)).dflt)
  (Int.toNat (0 : Int)) (0 : Int))) (IntKind.i64.wrap ((placeR4 n c).snd.snd.fst + List.getD ([[(0 : Int), (0 : Int)], [(1 : Int), (0 : Int)], [(1 : Int), (1 : Int)], [(0 : Int), (1
  : Int)]].getD (IntKind.i64.wrap (IntKind.i64.wrap ((0 : Int) + (1 : Int)) + (1 : Int))).toNat (K.arr (2 : Nat) (K.int IntKind.i64)).dflt) (Int.toNat (1 : Int)) (0 :
  Int)))).fst).length), ∃ (h : (((((List.replicate (4 : Nat) ((K.flt Go.FloatKind.f64).pair ((K.flt Go.FloatKind.f64).pair (K.flt Go.FloatKind.f64))).dflt).set (Int.toNat (0 : Int))
  (cornerR n (placeR4 n c).fst (IntKind.i64.wrap ((placeR4 n c).snd.fst + List.getD ([[(0 : Int), (0 : Int)], [(1 : Int), (0 : Int)], [(1 : Int), (1 : Int)], [(0 : Int), (1 :
  Int)]].getD (Int.toNat (0 : Int)) (K.arr (2 : Nat) (K.int IntKind.i64)).dflt) (Int.toNat (0 : Int)) (0 : Int))) (IntKind.i64.wrap ((placeR4 n c).snd.snd.fst + List.getD ([[(0 :
  Int), (0 : Int)], [(1 : Int), (0 : Int)], [(1 : Int), (1 : Int)], [(0 : Int), (1 : Int)]].getD (Int.toNat (0 : Int)) (K.arr (2 : Nat) (K.int IntKind.i64)).dflt) (Int.toNat (1 :
  Int)) (0 : Int)))).fst).set (IntKind.i64.wrap ((0 : Int) + (1 : Int))).toNat (cornerR n (placeR4 n c).fst (IntKind.i64.wrap ((placeR4 n c).snd.fst + List.getD ([[(0 : Int), (0 :
  Int)], [(1 : Int), (0 : Int)], [(1 : Int), (1 : Int)], [(0 : Int), (1 : Int)]].getD (IntKind.i64.wrap ((0 : Int) + (1 : Int))).toNat (K.arr (2 : Nat) (K.int IntKind.i64)).dflt)
  (Int.toNat (0 : Int)) (0 : Int))) (IntKind.i64.wrap ((placeR4 n c).snd.snd.fst + List.getD ([[(0 : Int), (0 : Int)], [(1 : Int), (0 : Int)], [(1 : Int), (1 : Int)], [(0 : Int), (1
  : Int)]].getD (IntKind.i64.wrap ((0 : Int) + (1 : Int))).toNat (K.arr (2 : Nat) (K.int IntKind.i64)).dflt) (Int.toNat (1 : Int)) (0 : Int)))).fst).set (IntKind.i64.wrap
  (IntKind.i64.wrap ((0 : Int) + (1 : Int)) + (1 : Int))).toNat (cornerR n (placeR4 n c).fst (IntKind.i64.wrap ((placeR4 n c).snd.fst + List.getD ([[(0 : Int), (0 : Int)], [(1 :
  Int), (0 : Int)], [(1 : Int), (1 : Int)], [(0 : Int), (1 : Int)]].getD (IntKind.i64.wrap (IntKind.i64.wrap ((0 : Int) + (1 : Int)) + (1 : Int))).toNat (K.arr (2 : Nat) (K.int
  IntKind.i64)).dflt) (Int.toNat (0 : Int)) (0 : Int))) (IntKind.i64.wrap ((placeR4 n c).snd.snd.fst + List.getD ([[(0 : Int), (0 : Int)], [(1 : Int), (0 : Int)], [(1 : Int), (1 :
  Int)], [(0 : Int), (1 : Int)]].getD (IntKind.i64.wrap (IntKind.i64.wrap ((0 : Int) + (1 : Int)) + (1 : Int))).toNat (K.arr (2 : Nat) (K.int IntKind.i64)).dflt) (Int.toNat (1 :
  Int)) (0 : Int)))).fst).set (IntKind.i64.wrap (IntKind.i64.wrap (IntKind.i64.wrap ((0 : Int) + (1 : Int)) + (1 : Int)) + (1 : Int))).toNat (cornerR n (placeR4 n c).fst
  (IntKind.i64.wrap ((placeR4 n c).snd.fst + List.getD ([[(0 : Int), (0 : Int)], [(1 : Int), (0 : Int)], [(1 : Int), (1 : Int)], [(0 : Int), (1 : Int)]].getD (IntKind.i64.wrap
  (IntKind.i64.wrap (IntKind.i64.wrap ((0 : Int) + (1 : Int)) + (1 : Int)) + (1 : Int))).toNat (K.arr (2 : Nat) (K.int IntKind.i64)).dflt) (Int.toNat (0 : Int)) (0 : Int)))
  (IntKind.i64.wrap ((placeR4 n c).snd.snd.fst + List.getD ([[(0 : Int), (0 : Int)], [(1 : Int), (0 : Int)], [(1 : Int), (1 : Int)], [(0 : Int), (1 : Int)]].getD (IntKind.i64.wrap
  (IntKind.i64.wrap (IntKind.i64.wrap ((0 : Int) + (1 : Int)) + (1 : Int)) + (1 : Int))).toNat (K.arr (2 : Nat) (K.int IntKind.i64)).dflt) (Int.toNat (1 : Int)) (0 :
  Int)))).fst).length = (4 : Nat)), ∃ (h : (List.replicate (4 : Nat) ((K.flt Go.FloatKind.f64).pair ((K.flt Go.FloatKind.f64).pair (K.flt Go.FloatKind.f64))).dflt).length = (4 :
  Nat) ∧ (((((List.replicate (4 : Nat) ((K.flt Go.FloatKind.f64).pair ((K.flt Go.FloatKind.f64).pair (K.flt Go.FloatKind.f64))).dflt).set (Int.toNat (0 : Int)) (cornerR n (placeR4 n
  c).fst (IntKind.i64.wrap ((placeR4 n c).snd.fst + List.getD ([[(0 : Int), (0 : Int)], [(1 : Int), (0 : Int)], [(1 : Int), (1 : Int)], [(0 : Int), (1 : Int)]].getD (Int.toNat (0 :
  Int)) (K.arr (2 : Nat) (K.int IntKind.i64)).dflt) (Int.toNat (0 : Int)) (0 : Int))) (IntKind.i64.wrap ((placeR4 n c).snd.snd.fst + List.getD ([[(0 : Int), (0 : Int)], [(1 : Int),
  (0 : Int)], [(1 : Int), (1 : Int)], [(0 : Int), (1 : Int)]].getD (Int.toNat (0 : Int)) (K.arr (2 : Nat) (K.int IntKind.i64)).dflt) (Int.toNat (1 : Int)) (0 : Int)))).fst).set
  (IntKind.i64.wrap ((0 : Int) + (1 : Int))).toNat (cornerR n (placeR4 n c).fst (IntKind.i64.wrap ((placeR4 n c).snd.fst + List.getD ([[(0 : Int), (0 : Int)], [(1 : Int), (0 :
  Int)], [(1 : Int), (1 : Int)], [(0 : Int), (1 : Int)]].getD (IntKind.i64.wrap ((0 : Int) + (1 : Int))).toNat (K.arr (2 : Nat) (K.int IntKind.i64)).dflt) (Int.toNat (0 : Int)) (0 :
  Int))) (IntKind.i64.wrap ((placeR4 n c).snd.snd.fst + List.getD ([[(0 : Int), (0 : Int)], [(1 : Int), (0 : Int)], [(1 : Int), (1 : Int)], [(0 : Int), (1 : Int)]].getD
  (IntKind.i64.wrap ((0 : Int) + (1 : Int))).toNat (K.arr (2 : Nat) (K.int IntKind.i64)).dflt) (Int.toNat (1 : Int)) (0 : Int)))).fst).set (IntKind.i64.wrap (IntKind.i64.wrap ((0 :
  Int) + (1 : Int)) + (1 : Int))).toNat (cornerR n (placeR4 n c).fst (IntKind.i64.wrap ((placeR4 n c).snd.fst + List.getD ([[(0 : Int), (0 : Int)], [(1 : Int), (0 : Int)], [(1 :
  Int), (1 : Int)], [(0 : Int), (1 : Int)]].getD (IntKind.i64.wrap (IntKind.i64.wrap ((0 : Int) + (1 : Int)) + (1 : Int))).toNat (K.arr (2 : Nat) (K.int IntKind.i64)).dflt)
  (Int.toNat (0 : Int)) (0 : Int))) (IntKind.i64.wrap ((placeR4 n c).snd.snd.fst + List.getD ([[(0 : Int), (0 : Int)], [(1 : Int), (0 : Int)], [(1 : Int), (1 : Int)], [(0 : Int), (1
  : Int)]].getD (IntKind.i64.wrap (IntKind.i64.wrap ((0 : Int) + (1 : Int)) + (1 : Int))).toNat (K.arr (2 : Nat) (K.int IntKind.i64)).dflt) (Int.toNat (1 : Int)) (0 :
  Int)))).fst).set (IntKind.i64.wrap (IntKind.i64.wrap (IntKind.i64.wrap ((0 : Int) + (1 : Int)) + (1 : Int)) + (1 : Int))).toNat (cornerR n (placeR4 n c).fst (IntKind.i64.wrap
  ((placeR4 n c).snd.fst + List.getD ([[(0 : Int), (0 : Int)], [(1 : Int), (0 : Int)], [(1 : Int), (1 : Int)], [(0 : Int), (1 : Int)]].getD (IntKind.i64.wrap (IntKind.i64.wrap
  (IntKind.i64.wrap ((0 : Int) + (1 : Int)) + (1 : Int)) + (1 : Int))).toNat (K.arr (2 : Nat) (K.int IntKind.i64)).dflt) (Int.toNat (0 : Int)) (0 : Int))) (IntKind.i64.wrap
  ((placeR4 n c).snd.snd.fst + List.getD ([[(0 : Int), (0 : Int)], [(1 : Int), (0 : Int)], [(1 : Int), (1 : Int)], [(0 : Int), (1 : Int)]].getD (IntKind.i64.wrap (IntKind.i64.wrap
  (IntKind.i64.wrap ((0 : Int) + (1 : Int)) + (1 : Int)) + (1 : Int))).toNat (K.arr (2 : Nat) (K.int IntKind.i64)).dflt) (Int.toNat (1 : Int)) (0 : Int)))).fst).length = (4 : Nat)),
  ∃ (h : (((((List.replicate (4 : Nat) ((K.flt Go.FloatKind.f64).pair ((K.flt Go.FloatKind.f64).pair (K.flt Go.FloatKind.f64))).dflt).set (Int.toNat (0 : Int)) (cornerR n (placeR4 n
  c).fst (IntKind.i64.wrap ((placeR4 n c).snd.fst + List.getD ([[(0 : Int), (0 : Int)], [(1 : Int), (0 : Int)], [(1 : Int), (1 : Int)], [(0 : Int), (1 : Int)]].getD (Int.toNat (0 :
  Int)) (K.arr (2 : Nat) (K.int IntKind.i64)).dflt) (Int.toNat (0 : Int)) (0 : Int))) (IntKind.i64.wrap ((placeR4 n c).snd.snd.fst + List.getD ([[(0 : Int), (0 : Int)], [(1 : Int),
  (0 : Int)], [(1 : Int), (1 : Int)], [(0 : Int), (1 : Int)]].getD (Int.toNat (0 : Int)) (K.arr (2 : Nat) (K.int IntKind.i64)).dflt) (Int.toNat (1 : Int)) (0 : Int)))).fst).set
  (IntKind.i64.wrap ((0 : Int) + (1 : Int))).toNat (cornerR n (placeR4 n c).fst (IntKind.i64.wrap ((placeR4 n c).snd.fst + List.getD ([[(0 : Int), (0 : Int)], [(1 : Int), (0 :
  Int)], [(1 : Int), (1 : Int)], [(0 : Int), (1 : Int)]].getD (IntKind.i64.wrap ((0 : Int) + (1 : Int))).toNat (K.arr (2 : Nat) (K.int IntKind.i64)).dflt) (Int.toNat (0 : Int)) (0 :
  Int))) (IntKind.i64.wrap ((placeR4 n c).snd.snd.fst + List.getD ([[(0 : Int), (0 : Int)], [(1 : Int), (0 : Int)], [(1 : Int), (1 : Int)], [(0 : Int), (1 : Int)]].getD
  (IntKind.i64.wrap ((0 : Int) + (1 : Int))).toNat (K.arr (2 : Nat) (K.int IntKind.i64)).dflt) (Int.toNat (1 : Int)) (0 : Int)))).fst).set (IntKind.i64.wrap (IntKind.i64.wrap ((0 :
  Int) + (1 : Int)) + (1 : Int))).toNat (cornerR n (placeR4 n c).fst (IntKind.i64.wrap ((placeR4 n c).snd.fst + List.getD ([[(0 : Int), (0 : Int)], [(1 : Int), (0 : Int)], [(1 :
  Int), (1 : Int)], [(0 : Int), (1 : Int)]].getD (IntKind.i64.wrap (IntKind.i64.wrap ((0 : Int) + (1 : Int)) + (1 : Int))).toNat (K.arr (2 : Nat) (K.int IntKind.i64)).dflt)
  (Int.toNat (0 : Int)) (0 : Int))) (IntKind.i64.wrap ((placeR4 n c).snd.snd.fst + List.getD ([[(0 : Int), (0 : Int)], [(1 : Int), (0 : Int)], [(1 : Int), (1 : Int)], [(0 : Int), (1
  : Int)]].getD (IntKind.i64.wrap (IntKind.i64.wrap ((0 : Int) + (1 : Int)) + (1 : Int))).toNat (K.arr (2 : Nat) (K.int IntKind.i64)).dflt) (Int.toNat (1 : Int)) (0 :
  Int)))).fst).set (IntKind.i64.wrap (IntKind.i64.wrap (IntKind.i64.wrap ((0 : Int) + (1 : Int)) + (1 : Int)) + (1 : Int))).toNat (cornerR n (placeR4 n c).fst (IntKind.i64.wrap
  ((placeR4 n c).snd.fst + List.getD ([[(0 : Int), (0 : Int)], [(1 : Int), (0 : Int)], [(1 : Int), (1 : Int)], [(0 : Int), (1 : Int)]].getD (IntKind.i64.wrap (IntKind.i64.wrap
  (IntKind.i64.wrap ((0 : Int) + (1 : Int)) + (1 : Int)) + (1 : Int))).toNat (K.arr (2 : Nat) (K.int IntKind.i64)).dflt) (Int.toNat (0 : Int)) (0 : Int))) (IntKind.i64.wrap
  ((placeR4 n c).snd.snd.fst + List.getD ([[(0 : Int), (0 : Int)], [(1 : Int), (0 : Int)], [(1 : Int), (1 : Int)], [(0 : Int), (1 : Int)]].getD (IntKind.i64.wrap (IntKind.i64.wrap
  (IntKind.i64.wrap ((0 : Int) + (1 : Int)) + (1 : Int)) + (1 : Int))).toNat (K.arr (2 : Nat) (K.int IntKind.i64)).dflt) (Int.toNat (1 : Int)) (0 : Int)))).fst).length = (4 : Nat)),
  post (((((List.replicate (4 : Nat) ((K.flt Go.FloatKind.f64).pair ((K.flt Go.FloatKind.f64).pair (K.flt Go.FloatKind.f64))).dflt).set (Int.toNat (0 : Int)) (cornerR n (placeR4 n
  c).fst (IntKind.i64.wrap ((placeR4 n c).snd.fst + List.getD ([[(0 : Int), (0 : Int)], [(1 : Int), (0 : Int)], [(1 : Int), (1 : Int)], [(0 : Int), (1 : Int)]].getD (Int.toNat (0 :
  Int)) (K.arr (2 : Nat) (K.int IntKind.i64)).dflt) (Int.toNat (0 : Int)) (0 : Int))) (IntKind.i64.wrap ((placeR4 n c).snd.snd.fst + List.getD ([[(0 : Int), (0 : Int)], [(1 : Int),
  (0 : Int)], [(1 : Int), (1 : Int)], [(0 : Int), (1 : Int)]].getD (Int.toNat (0 : Int)) (K.arr (2 : Nat) (K.int IntKind.i64)).dflt) (Int.toNat (1 : Int)) (0 : Int)))).fst).set
  (IntKind.i64.wrap ((0 : Int) + (1 : Int))).toNat (cornerR n (placeR4 n c).fst (IntKind.i64.wrap ((placeR4 n c).snd.fst + List.getD ([[(0 : Int), (0 : Int)], [(1 : Int), (0 :
  Int)], [(1 : Int), (1 : Int)], [(0 : Int), (1 : Int)]].getD (IntKind.i64.wrap ((0 : Int) + (1 : Int))).toNat (K.arr (2 : Nat) (K.int IntKind.i64)).dflt) (Int.toNat (0 : Int)) (0 :
  Int))) (IntKind.i64.wrap ((placeR4 n c).snd.snd.fst + List.getD ([[(0 : Int), (0 : Int)], [(1 : Int), (0 : Int)], [(1 : Int), (1 : Int)], [(0 : Int), (1 : Int)]].getD
  (IntKind.i64.wrap ((0 : Int) + (1 : Int))).toNat (K.arr (2 : Nat) (K.int IntKind.i64)).dflt) (Int.toNat (1 : Int)) (0 : Int)))).fst).set (IntKind.i64.wrap (IntKind.i64.wrap ((0 :
  Int) + (1 : Int)) + (1 : Int))).toNat (cornerR n (placeR4 n c).fst (IntKind.i64.wrap ((placeR4 n c).snd.fst + List.getD ([[(0 : Int), (0 : Int)], [(1 : Int), (0 : Int)], [(1 :
  Int), (1 : Int)], [(0 : Int), (1 : Int)]].getD (IntKind.i64.wrap (IntKind.i64.wrap ((0 : Int) + (1 : Int)) + (1 : Int))).toNat (K.arr (2 : Nat) (K.int IntKind.i64)).dflt)
  (Int.toNat (0 : Int)) (0 : Int))) (IntKind.i64.wrap ((placeR4 n c).snd.snd.fst + List.getD ([[(0 : Int), (0 : Int)], [(1 : Int), (0 : Int)], [(1 : Int), (1 : Int)], [(0 : Int), (1
  : Int)]].getD (IntKind.i64.wrap (IntKind.i64.wrap ((0 : Int) + (1 : Int)) + (1 : Int))).toNat (K.arr (2 : Nat) (K.int IntKind.i64)).dflt) (Int.toNat (1 : Int)) (0 :
  Int)))).fst).set (IntKind.i64.wrap (IntKind.i64.wrap (IntKind.i64.wrap ((0 : Int) + (1 : Int)) + (1 : Int)) + (1 : Int))).toNat (cornerR n (placeR4 n c).fst (IntKind.i64.wrap
  ((placeR4 n c).snd.fst + List.getD ([[(0 : Int), (0 : Int)], [(1 : Int), (0 : Int)], [(1 : Int), (1 : Int)], [(0 : Int), (1 : Int)]].getD (IntKind.i64.wrap (IntKind.i64.wrap
  (IntKind.i64.wrap ((0 : Int) + (1 : Int)) + (1 : Int)) + (1 : Int))).toNat (K.arr (2 : Nat) (K.int IntKind.i64)).dflt) (Int.toNat (0 : Int)) (0 : Int))) (IntKind.i64.wrap
  ((placeR4 n c).snd.snd.fst + List.getD ([[(0 : Int), (0 : Int)], [(1 : Int), (0 : Int)], [(1 : Int), (1 : Int)], [(0 : Int), (1 : Int)]].getD (IntKind.i64.wrap (IntKind.i64.wrap
  (IntKind.i64.wrap ((0 : Int) + (1 : Int)) + (1 : Int)) + (1 : Int))).toNat (K.arr (2 : Nat) (K.int IntKind.i64)).dflt) (Int.toNat (1 : Int)) (0 : Int)))).fst, Bool.true, ()))
theorem Lx_geom_corners (n : Int) (c : Int) (h : II n c) : Fx_geom_corners  n c (fun r => r = cornersR n c) := by
  obtain ⟨hn, hc⟩ := h
  refine ⟨⟨hn, hc⟩, Br.intro (fun e => ?_) fun e => ?_⟩
  · refine ⟨⟨by decide, by decide⟩, by decide, ?_⟩
    have ok : placeOk n c = false := by
      cases q : placeOk n c with
      | false => rfl
      | true => unfold placeR4 at e; rw [if_pos q] at e; cases e
    unfold cornersR; rw [if_neg (by rw [ok]; decide)]
  have ok : placeOk n c = true := by
    cases q : placeOk n c with
    | true => rfl
    | false => unfold placeR4 at e; rw [if_neg (by rw [q]; decide)] at e; cases e
  obtain ⟨h1, h2, h3, h4, h5, h6⟩ := place_facts ok
  obtain ⟨r1, r2, r3, r4, r5, r6⟩ := place_rng ok
  have hp : placeR4 n c = (c / (n * n), c % n, c / n % n, true, ()) := by unfold placeR4; rw [if_pos ok]
  have hf : I64 (c / (n * n)) := ⟨by omega, by omega⟩
  have ho : ∀ x, 0 ≤ x → x ≤ 33 → I64 x := fun x a b => ⟨by omega, by omega⟩
  have w0 : ∀ x, 0 ≤ x → x ≤ 33 → IntKind.i64.wrap (x + 0) = x := fun x a b => by rw [Int.add_zero, wi (ho x a b)]
  have w1 : ∀ x, 0 ≤ x → x ≤ 32 → IntKind.i64.wrap (x + 1) = x + 1 := fun x a b => wi (ho _ (by omega) (by omega))
  have hC : ∀ i j, 0 ≤ i → i ≤ n → 0 ≤ j → j ≤ n → cornerR n (c / (n * n)) i j = (cornerQ n (c / (n * n)) i j, true, ()) := by
    intro i j a1 a2 a3 a4
    unfold cornerR
    rw [if_pos]
    unfold cornerOk
    rw [goodC_iff.2 ⟨h1, h2⟩, decide_eq_true (by omega), decide_eq_true (by omega), decide_eq_true (by omega), decide_eq_true (by omega), decide_eq_true (by omega), decide_eq_true (by omega)]
    rfl
  have a0 := w0 (c % n) (by omega) (by omega)
  have a1 := w1 (c % n) (by omega) (by omega)
  have b0 := w0 (c / n % n) (by omega) (by omega)
  have b1 := w1 (c / n % n) (by omega) (by omega)
  have A0 : I64 (IntKind.i64.wrap (c % n + 0)) := by rw [a0]; exact ho _ (by omega) (by omega)
  have A1 : I64 (IntKind.i64.wrap (c % n + 1)) := by rw [a1]; exact ho _ (by omega) (by omega)
  have B0 : I64 (IntKind.i64.wrap (c / n % n + 0)) := by rw [b0]; exact ho _ (by omega) (by omega)
  have B1 : I64 (IntKind.i64.wrap (c / n % n + 1)) := by rw [b1]; exact ho _ (by omega) (by omega)
  rw [hp]
  refine ⟨by decide, ⟨by decide, by decide⟩, ⟨by decide, by decide, by decide⟩, ⟨by decide, by decide, by decide⟩, ⟨hn, hf, A0, B0⟩, ⟨by decide, by decide, Nat.le_refl 4⟩,
    by decide, ⟨by decide, by decide⟩, ⟨by decide, by decide, by decide⟩, ⟨by decide, by decide, by decide⟩, ⟨hn, hf, A1, B0⟩, ⟨by decide, by decide, Nat.le_refl 4⟩,
    by decide, ⟨by decide, by decide⟩, ⟨by decide, by decide, by decide⟩, ⟨by decide, by decide, by decide⟩, ⟨hn, hf, A1, B1⟩, ⟨by decide, by decide, Nat.le_refl 4⟩,
    by decide, ⟨by decide, by decide⟩, ⟨by decide, by decide, by decide⟩, ⟨by decide, by decide, by decide⟩, ⟨hn, hf, A0, B1⟩, ⟨by decide, by decide, Nat.le_refl 4⟩, rfl, ⟨rfl, rfl⟩, rfl, ?_⟩
  show ([(cornerR n (c / (n * n)) (IntKind.i64.wrap (c % n + 0)) (IntKind.i64.wrap (c / n % n + 0))).1, (cornerR n (c / (n * n)) (IntKind.i64.wrap (c % n + 1)) (IntKind.i64.wrap (c / n % n + 0))).1, (cornerR n (c / (n * n)) (IntKind.i64.wrap (c % n + 1)) (IntKind.i64.wrap (c / n % n + 1))).1, (cornerR n (c / (n * n)) (IntKind.i64.wrap (c % n + 0)) (IntKind.i64.wrap (c / n % n + 1))).1], true, ()) = _
  rw [a0, a1, b0, b1, hC _ _ (by omega) (by omega) (by omega) (by omega), hC _ _ (by omega) (by omega) (by omega) (by omega), hC _ _ (by omega) (by omega) (by omega) (by omega), hC _ _ (by omega) (by omega) (by omega) (by omega)]
  unfold cornersR; rw [if_pos ok]
def Fx_geom_Area := fun (n c : Int) (post : Int × Unit → Prop) => ∃ (h : II n c), ∃ (h : (List.replicate (4 : Nat) ((K.flt Go.FloatKind.f64).pair ((K.flt Go.FloatKind.f64).pair
  (K.flt Go.FloatKind.f64))).dflt).length = (4 : Nat) ∧ (cornersR n c).fst.length = (4 : Nat)), Br (!(cornersR n c).snd.fst) (post ((0 : Int), ())) (∃ (h : (0 : Int) ≤ (2 : Int) ∧
  (2 : Int) < (↑(4 : Nat) : Int) ∧ (4 : Nat) ≤ (cornersR n c).fst.length), ∃ (h : (0 : Int) ≤ (0 : Int) ∧ (0 : Int) < (↑(4 : Nat) : Int) ∧ (4 : Nat) ≤ (cornersR n c).fst.length), ∃
  (h : WV2 ((cornersR n c).fst.getD (Int.toNat (2 : Int)) ((K.flt Go.FloatKind.f64).pair ((K.flt Go.FloatKind.f64).pair (K.flt Go.FloatKind.f64))).dflt) ((cornersR n c).fst.getD
  (Int.toNat (0 : Int)) ((K.flt Go.FloatKind.f64).pair ((K.flt Go.FloatKind.f64).pair (K.flt Go.FloatKind.f64))).dflt)), ∃ (h : (0 : Int) ≤ (3 : Int) ∧ (3 : Int) < (↑(4 : Nat) :
  Int) ∧ (4 : Nat) ≤ (cornersR n c).fst.length), ∃ (h : (0 : Int) ≤ (1 : Int) ∧ (1 : Int) < (↑(4 : Nat) : Int) ∧ (4 : Nat) ≤ (cornersR n c).fst.length), ∃ (h : WV2 ((cornersR n
  c).fst.getD (Int.toNat (3 : Int)) ((K.flt Go.FloatKind.f64).pair ((K.flt Go.FloatKind.f64).pair (K.flt Go.FloatKind.f64))).dflt) ((cornersR n c).fst.getD (Int.toNat (1 : Int))
  ((K.flt Go.FloatKind.f64).pair ((K.flt Go.FloatKind.f64).pair (K.flt Go.FloatKind.f64))).dflt)), ∃ (h : True), ∃ (h : WV (crossR (minusR ((cornersR n c).fst.getD (Int.toNat (2 :
  Int)) ((K.flt Go.FloatKind.f64).pair ((K.flt Go.FloatKind.f64).pair (K.flt Go.FloatKind.f64))).dflt) ((cornersR n c).fst.getD (Int.toNat (0 : Int)) ((K.flt Go.FloatKind.f64).pair
  ((K.flt Go.FloatKind.f64).pair (K.flt Go.FloatKind.f64))).dflt)).fst (minusR ((cornersR n c).fst.getD (Int.toNat (3 : Int)) ((K.flt Go.FloatKind.f64).pair ((K.flt
  Go.FloatKind.f64).pair (K.flt Go.FloatKind.f64))).dflt) ((cornersR n c).fst.getD (Int.toNat (1 : Int)) ((K.flt Go.FloatKind.f64).pair ((K.flt Go.FloatKind.f64).pair (K.flt
  Go.FloatKind.f64))).dflt)).fst).fst), ∀ (a : Nat), FRes Go.FloatKind.f64 (Go.FloatKind.f64.format.mul (lengthR (crossR (minusR ((cornersR n c).fst.getD (Int.toNat (2 : Int))
  ((K.flt Go.FloatKind.f64).pair ((K.flt Go.FloatKind.f64).pair (K.flt Go.FloatKind.f64))).dflt) ((cornersR n c).fst.getD (Int.toNat (0 : Int)) ((K.flt Go.FloatKind.f64).pair
  ((K.flt Go.FloatKind.f64).pair (K.flt Go.FloatKind.f64))).dflt)).fst (minusR ((cornersR n c).fst.getD (Int.toNat (3 : Int)) ((K.flt Go.FloatKind.f64).pair ((K.flt
  Go.FloatKind.f64).pair (K.flt Go.FloatKind.f64))).dflt) ((cornersR n c).fst.getD (Int.toNat (1 : Int)) ((K.flt Go.FloatKind.f64).pair ((K.flt Go.FloatKind.f64).pair (K.flt
  Go.FloatKind.f64))).dflt)).fst).fst).fst (4602678819172646912 : Nat)) a → ∀ (a_1 : Nat), FRes Go.FloatKind.f64 (Go.FloatKind.f64.format.mul a (4742290407621132288 : Nat)) a_1 → ∃
  (h : W64 a_1), post (imax (roundR a_1).fst (1 : Int), ()))
theorem Lx_geom_Area (n : Int) (c : Int) (h : II n c) : Fx_geom_Area  n c (fun r => r = areaR n c) := by
  have g0 : ∀ i : Nat, WV ((cornersR n c).fst.getD i ((K.flt Go.FloatKind.f64).pair ((K.flt Go.FloatKind.f64).pair (K.flt Go.FloatKind.f64))).dflt) := corners_w n c
  have hl := corners_len n c
  refine ⟨h, ⟨by decide, hl⟩, ?_⟩
  rw [hl]
  refine Br.intro (fun e => ?_) fun e => ?_
  · rw [corners_ok] at e
    exact congrArg r1 (by unfold areaI; rw [if_neg (by intro q; rw [q] at e; cases e)])
  rw [corners_ok] at e
  have ok : placeOk n c = true := by simpa using e
  refine ⟨⟨by decide, by decide, Nat.le_refl 4⟩, ⟨by decide, by decide, Nat.le_refl 4⟩, ⟨g0 2, g0 0⟩, ⟨by decide, by decide, Nat.le_refl 4⟩, ⟨by decide, by decide, Nat.le_refl 4⟩, ⟨g0 3, g0 1⟩, trivial, crossV_w _ _, ?_⟩
  intro x hx y hy
  obtain ⟨x1, x2⟩ := fmul hx
  obtain ⟨y1, y2⟩ := fmul hy
  refine ⟨y2, congrArg r1 ?_⟩
  have hs : cornersR n c = ([cornerC n c 0 0, cornerC n c 1 0, cornerC n c 1 1, cornerC n c 0 1], true, ()) := by
    unfold cornersR; rw [if_pos ok]; unfold cornerC; rw [Int.add_zero, Int.add_zero]
  have hq : [cornerC n c 0 0, cornerC n c 1 0, cornerC n c 1 1, cornerC n c 0 1] = (cornersR n c).1 := by rw [hs]
  have hx1 : quietF x = mulQ (spanQ n c) halfR := by
    rw [x1]
    exact congrArg (fun z => mulQ z 4602678819172646912) (span_l (z := (0, 0, 0)) hq.symm)
  have hy1 : quietF y = mulQ (mulQ (spanQ n c) halfR) unitArea := by
    rw [y1]
    have u : quietF x = quietF (mulQ (spanQ n c) halfR) := by rw [hx1, mulQ_q]
    exact mulQ_congr u rfl
  show imax (roundI y).1 1 = areaI n c
  unfold areaI
  rw [if_pos ok, round_quiet y2, hy1]
end Go.Lift
