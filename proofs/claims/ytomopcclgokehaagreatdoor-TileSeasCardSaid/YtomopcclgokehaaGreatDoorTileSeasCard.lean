/- tarnlaw24.TileSeas: at every input it returns true and leaves the arguments as they were; geom.frames reads as the program's text lays it. -/
import Derived.Test.YtomopcclgokehaaGreatDoorTie
import Derived.Test.YtomopcclgokehaaGreatDoorCards
import Derived.Test.YtomopcclgokehaaGreatDoorPtF
set_option linter.unusedVariables false
set_option linter.unusedSimpArgs false
set_option linter.unusedSectionVars false
/- Own work. -/
set_option linter.unusedVariables false
set_option linter.unusedSimpArgs false
namespace Go.Lift
def Fx_ref24_Side := fun (a : Int) (post : Int × Unit → Prop) => HIs [] [] ∧ ∃ (I : Int × Unit → Unit → Prop), ∃ (μ : Int × Unit → Unit → Nat), I ((1 : Int), ()) () ∧ ∀ (x : Int ×
  Unit) (y : Unit), I x y → ∀ (a_1 : Bool), a_1 = decide (x.fst ≤ (32 : Int)) → Br a_1 (∀ (a_2 : Bool), a_2 = (IntKind.i64.wrap (x.fst * x.fst) == a) → Br a_2 (post (x.fst, ()))
  (HIs [] [] ∧ I (IntKind.i64.wrap (x.fst + (1 : Int)), ()) () ∧ μ (IntKind.i64.wrap (x.fst + (1 : Int)), ()) () < μ x y)) (post ((0 : Int), ()))
theorem Lx_ref24_Side (a : Int) (h : I64 a) : Fx_ref24_Side  a (fun r => r = rootR a) := by
  refine ⟨rfl, fun x _ => ∃ k : Nat, x.1 = k ∧ 1 ≤ k ∧ k ≤ 33 ∧ rootI a = rootN a (33 - k) k, fun x _ => 33 - x.1.toNat, ⟨1, rfl, by omega, by omega, rfl⟩, ?_⟩
  rintro ⟨_, ⟨⟩⟩ _ ⟨k, rfl, k1, k2, hk⟩
  dsimp only
  rintro _ rfl
  refine Br.intro (fun e => ?_) fun e => ?_
  · have e := of_decide_eq_true e
    have q : k * k ≤ 32 * 32 := Nat.mul_le_mul (by omega) (by omega)
    have wk : IntKind.i64.wrap ((k : Int) * k) = (k : Int) * k := by
      rw [← Int.natCast_mul]; exact wi ⟨by omega, by omega⟩
    obtain ⟨m, hm⟩ : ∃ m, 33 - k = m + 1 := ⟨32 - k, by omega⟩
    rw [hm, rootN_succ] at hk
    rw [wk]
    rintro _ rfl
    refine Br.intro (fun f => ?_) fun f => ?_
    · have f : (k : Int) * k = a := eq_of_beq f
      rw [if_pos f] at hk
      exact congrArg r1 hk.symm
    · have f : ¬ (k : Int) * k = a := by intro q; rw [q] at f; simp at f
      rw [if_neg f] at hk
      have ws : IntKind.i64.wrap ((k : Int) + 1) = ((k + 1 : Nat) : Int) := wi_succ (n := 34) (by omega) (by omega)
      rw [ws]
      exact ⟨rfl, ⟨k + 1, rfl, by omega, by omega, by rw [hk, show 33 - (k + 1) = m by omega]⟩, by omega⟩
  · have e := of_decide_eq_false e
    refine congrArg r1 ?_
    rw [hk, show 33 - k = 0 by omega]; rfl
def Fx_ref24_ends := fun (a : List Int) (post : Int × Int × Unit → Prop) => ∃ (h : (0 : Int) ≤ (0 : Int) ∧ (0 : Int) < (↑a.length : Int)), ∃ (h : (0 : Int) ≤ (0 : Int) ∧ (0 : Int) <
  (↑a.length : Int)), HIs [] [] ∧ ∃ (I : Int × Int × Int × Unit → Unit → Prop), ∃ (μ : Int × Int × Int × Unit → Unit → Nat), I (a.getD (Int.toNat (0 : Int)) (0 : Int), a.getD
  (Int.toNat (0 : Int)) (0 : Int), (1 : Int), ()) () ∧ ∀ (x : Int × Int × Int × Unit) (y : Unit), I x y → ∀ (a_1 : Bool), a_1 = decide (x.snd.snd.fst < (↑a.length : Int)) → Br a_1
  (∃ (post : Int × Int × Unit → Unit → Prop), (∃ (post_1 : Int × Unit → Unit → Prop), (∃ (h : (0 : Int) ≤ x.snd.snd.fst ∧ x.snd.snd.fst < (↑a.length : Int)), ∀ (a_2 : Bool), a_2 =
  decide (a.getD x.snd.snd.fst.toNat (0 : Int) < x.fst) → Br a_2 (∃ (h : (0 : Int) ≤ x.snd.snd.fst ∧ x.snd.snd.fst < (↑a.length : Int)), HIs [] [] ∧ post_1 (a.getD
  x.snd.snd.fst.toNat (0 : Int), ()) ()) (HIs [] [] ∧ post_1 (x.fst, ()) ())) ∧ ∀ (x_3 : Int × Unit) (y : Unit), post_1 x_3 y → ∃ (h : (0 : Int) ≤ x.snd.snd.fst ∧ x.snd.snd.fst <
  (↑a.length : Int)), ∀ (a_2 : Bool), a_2 = decide (a.getD x.snd.snd.fst.toNat (0 : Int) > x.snd.fst) → Br a_2 (∃ (h : (0 : Int) ≤ x.snd.snd.fst ∧ x.snd.snd.fst < (↑a.length :
  Int)), HIs [] [] ∧ post (x_3.fst, a.getD x.snd.snd.fst.toNat (0 : Int), ()) ()) (HIs [] [] ∧ post (x_3.fst, x.snd.fst, ()) ())) ∧ ∀ (x_3 : Int × Int × Unit) (y_1 : Unit), post x_3
  y_1 → HIs [] [] ∧ I (x_3.fst, x_3.snd.fst, IntKind.i64.wrap (x.snd.snd.fst + (1 : Int)), ()) () ∧ μ (x_3.fst, x_3.snd.fst, IntKind.i64.wrap (x.snd.snd.fst + (1 : Int)), ()) () < μ
  x y) (post (x.fst, x.snd.fst, ()))
theorem Lx_ref24_ends (a : List Int) (h : NE a) (w : KS.wf [.slice (.int .u32)] (a, ())) : Fx_ref24_ends  a (fun r => r = endsR a) := by
  have hl : a.length ≤ maxN := w.1.1
  unfold maxN at hl
  have h : 0 < a.length := h
  have t1 : a.take 1 = [a.getD 0 0] := by rw [take_step h 0]; rfl
  have m1 : ∀ x : Int, imin x x = x := fun x => by unfold imin; split <;> rfl
  have m2 : ∀ x : Int, imax x x = x := fun x => by unfold imax; split <;> rfl
  refine ⟨⟨by omega, by omega⟩, ⟨by omega, by omega⟩, rfl, fun x _ => ∃ i : Nat, x.2.2.1 = i ∧ i ≤ a.length ∧ x.1 = (a.take i).foldl imin (a.getD 0 0) ∧ x.2.1 = (a.take i).foldl imax (a.getD 0 0), fun x _ => a.length - x.2.2.1.toNat, ⟨1, rfl, by omega, by rw [t1]; exact (m1 _).symm, by rw [t1]; exact (m2 _).symm⟩, ?_⟩
  rintro ⟨_, _, _, ⟨⟩⟩ _ ⟨i, rfl, hil, rfl, rfl⟩
  dsimp only
  rintro _ rfl
  refine Br.intro (fun e => ?_) fun e => ?_
  · have e : i < a.length := by have := of_decide_eq_true e; omega
    have hin : (0 : Int) ≤ i ∧ (i : Int) < a.length := ⟨by omega, by omega⟩
    rw [Int.toNat_natCast, wi_succ e (by omega)]
    refine ⟨fun r _ => r.1 = (a.take (i + 1)).foldl imin (a.getD 0 0) ∧ r.2.1 = (a.take (i + 1)).foldl imax (a.getD 0 0), ⟨fun r _ => r.1 = (a.take (i + 1)).foldl imin (a.getD 0 0), ⟨hin, ?_⟩, ?_⟩, ?_⟩
    · rw [foldl_step imin e 0]
      rintro _ rfl
      refine Br.intro (fun g => ⟨hin, rfl, ?_⟩) fun g => ⟨rfl, ?_⟩
      · exact (imin_of (of_decide_eq_true g)).symm
      · exact (imin_not (of_decide_eq_false g)).symm
    · rintro ⟨_, ⟨⟩⟩ _ rfl
      refine ⟨hin, ?_⟩
      rw [foldl_step imax e 0]
      rintro _ rfl
      refine Br.intro (fun g => ⟨hin, rfl, rfl, ?_⟩) fun g => ⟨rfl, rfl, ?_⟩
      · exact (imax_of (of_decide_eq_true g)).symm
      · exact (imax_not (of_decide_eq_false g)).symm
    · rintro ⟨_, _, ⟨⟩⟩ _ ⟨rfl, rfl⟩
      exact ⟨rfl, ⟨i + 1, rfl, by omega, rfl, rfl⟩, by omega⟩
  · have e : ¬ i < a.length := by have := of_decide_eq_false e; omega
    rw [List.take_of_length_le (by omega)]; rfl
def Fx_ref24_Good := fun (a : Int × Int × Int × List Int) (post : Bool × Unit → Prop) => ∀ (a_1 : Bool), a_1 = decide (a.fst < (0 : Int)) → Br a_1 (post (Bool.false, ())) (∀ (a_2 :
  Bool), a_2 = decide (a.fst > (5 : Int)) → Br a_2 (post (Bool.false, ())) (∃ (h : I64 (↑a.snd.snd.snd.length : Int)), ∀ (a_3 : Bool), a_3 = ((rootR (↑a.snd.snd.snd.length :
  Int)).fst == (0 : Int)) → Br a_3 (post (Bool.false, ())) (∃ (h : NE a.snd.snd.snd), ∀ (a_4 : Bool), a_4 = decide ((endsR a.snd.snd.snd).snd.fst < (2139095040 : Int)) → Br a_4 (∀
  (a_5 : Bool), a_5 = (a.snd.fst == (endsR a.snd.snd.snd).fst) → Br a_5 (∀ (a_6 : Bool), a_6 = (a.snd.snd.fst == (endsR a.snd.snd.snd).snd.fst) → post (a_6, ())) (post (Bool.false,
  ()))) (post (Bool.false, ())))))
theorem Lx_ref24_Good (a : Int × Int × Int × List Int) (h : TiOk a) (w : KS.wf [kTile] (a, ())) : Fx_ref24_Good  a (fun r => r = goodTR a) := by
  have hl : a.2.2.2.length ≤ maxN := w.1.2.2.2.1
  unfold maxN at hl
  have be : ∀ x y : Int, (x == y) = decide (x = y) := fun x y => by by_cases q : x = y <;> simp [q]
  have no : goodT a = false → (false, ()) = goodTR a := fun q => congrArg r1 q.symm
  rintro _ rfl
  refine Br.intro (fun e => no ?_) fun e => ?_
  · have e := of_decide_eq_true e
    unfold goodT; rw [decide_eq_false (by omega)]; rfl
  have e0 := of_decide_eq_false e
  rintro _ rfl
  refine Br.intro (fun e => no ?_) fun e => ?_
  · have e := of_decide_eq_true e
    unfold goodT; rw [decide_eq_false (p := a.1 ≤ 5) (by omega), Bool.and_false]; rfl
  have e1 := of_decide_eq_false e
  refine ⟨⟨by omega, by omega⟩, ?_⟩
  rintro _ rfl
  refine Br.intro (fun e => no ?_) fun e => ?_
  · have e : rootI a.2.2.2.length = 0 := eq_of_beq e
    unfold goodT; rw [e, decide_eq_false (p := (0 : Int) ≠ 0) (by decide), Bool.and_false]; rfl
  have e2 : rootI a.2.2.2.length ≠ 0 := by intro q; have e : (rootI a.2.2.2.length == 0) = false := e; rw [q] at e; cases e
  have hp : 0 < a.2.2.2.length := by
    obtain ⟨r1, r2, r3⟩ := root_rng e2
    have := Int.mul_le_mul r1 r1 (by omega) (by omega)
    omega
  refine ⟨hp, ?_⟩
  have g : goodT a = ((decide (maxL a.2.2.2 < 2139095040) && decide (a.2.1 = minL a.2.2.2)) && decide (a.2.2.1 = maxL a.2.2.2)) := by
    unfold goodT lowT
    rw [decide_eq_true (p := 0 ≤ a.1) (by omega), decide_eq_true (p := a.1 ≤ 5) (by omega), decide_eq_true e2, all_lt hp]; rfl
  rintro _ rfl
  refine Br.intro (fun e => ?_) fun e => ?_
  · have e : decide (maxL a.2.2.2 < 2139095040) = true := e
    rintro _ rfl
    refine Br.intro (fun f => ?_) fun f => ?_
    · have f : (a.2.1 == minL a.2.2.2) = true := f
      rw [be] at f
      rintro _ rfl
      refine congrArg r1 ?_
      show (a.2.2.1 == maxL a.2.2.2) = _
      rw [g, e, f, be]; rfl
    · have f : (a.2.1 == minL a.2.2.2) = false := f
      rw [be] at f
      exact no (by rw [g, e, f]; rfl)
  · have e : decide (maxL a.2.2.2 < 2139095040) = false := e
    exact no (by rw [g, e]; rfl)
def Fx_ref24_number := fun (a : List Int) (post : Int × Unit → Prop) => ∃ (h : (0 : Int) ≤ (0 : Int) ∧ (0 : Int) < (↑a.length : Int)), ∃ (h : (0 : Int) ≤ (1 : Int) ∧ (1 : Int) <
  (↑a.length : Int)), ∃ (h : (0 : Int) ≤ (2 : Int) ∧ (2 : Int) < (↑a.length : Int)), ∃ (h : (0 : Int) ≤ (3 : Int) ∧ (3 : Int) < (↑a.length : Int)), post (IntKind.u32.wrap
  (IntKind.u32.wrap (IntKind.u32.wrap (IntKind.u32.wrap (a.getD (Int.toNat (0 : Int)) (0 : Int)) + IntKind.u32.wrap ((256 : Int) * IntKind.u32.wrap (a.getD (Int.toNat (1 : Int)) (0
  : Int)))) + IntKind.u32.wrap ((65536 : Int) * IntKind.u32.wrap (a.getD (Int.toNat (2 : Int)) (0 : Int)))) + IntKind.u32.wrap ((16777216 : Int) * IntKind.u32.wrap (a.getD
  (Int.toNat (3 : Int)) (0 : Int)))), ())
theorem Lx_ref24_number (a : List Int) (h : WNum4 a) : Fx_ref24_number  a (fun r => r = num4R a) := by
  obtain ⟨hb, hl⟩ := h
  refine ⟨⟨by omega, by omega⟩, ⟨by omega, by omega⟩, ⟨by omega, by omega⟩, ⟨by omega, by omega⟩, congrArg r1 ?_⟩
  exact num4_sum (hb _ (getD_mem (show 0 < a.length by omega) 0)) (hb _ (getD_mem (show 1 < a.length by omega) 0)) (hb _ (getD_mem (show 2 < a.length by omega) 0)) (hb _ (getD_mem (show 3 < a.length by omega) 0))
def Fx_ref24_Encode := fun (ty25 ty5 : Nat) (a : Int × Int × Int × List Int) (post : List Int × Int × Unit → Prop) => ∃ (h : TiOk (a.fst, a.snd.fst, a.snd.snd.fst, a.snd.snd.snd)),
  ∀ (a_1 : Bool), a_1 = (goodTR (a.fst, a.snd.fst, a.snd.snd.fst, a.snd.snd.snd)).fst → Br (!a_1) (post ([], (1 : Int), ())) (∃ (h : (0 : Nat) = (0 : Nat) ∧ (0 : Nat) + (strBytes {
  data := #[(84 : UInt8), (73 : UInt8), (76 : UInt8), (69 : UInt8)] }).length ≤ (140737488355328 : Nat)), ∃ (h : I64 (↑a.snd.snd.snd.length : Int)), ∃ (h : (0 : Nat) + (strBytes {
  data := #[(84 : UInt8), (73 : UInt8), (76 : UInt8), (69 : UInt8)] }).length = ([] ++ strBytes { data := #[(84 : UInt8), (73 : UInt8), (76 : UInt8), (69 : UInt8)] }).length ∧ (([]
  ++ strBytes { data := #[(84 : UInt8), (73 : UInt8), (76 : UInt8), (69 : UInt8)] }).length + (2 : Nat)) * (1 : Nat) ≤ (140737488355328 : Nat)), ∃ (h : (256 : Int) ≠ (0 : Int)), ∃
  (h : (256 : Int) ≠ (0 : Int)), ∃ (h : (256 : Int) ≠ (0 : Int)), ∃ (h : (65536 : Int) ≠ (0 : Int)), ∃ (h : (256 : Int) ≠ (0 : Int)), ∃ (h : (16777216 : Int) ≠ (0 : Int)), ∃ (h :
  ([] ++ strBytes { data := #[(84 : UInt8), (73 : UInt8), (76 : UInt8), (69 : UInt8)] }).length + (2 : Nat) = ([] ++ strBytes { data := #[(84 : UInt8), (73 : UInt8), (76 : UInt8),
  (69 : UInt8)] } ++ [IntKind.u8.wrap a.fst, IntKind.u8.wrap (rootR (↑a.snd.snd.snd.length : Int)).fst]).length ∧ (([] ++ strBytes { data := #[(84 : UInt8), (73 : UInt8), (76 :
  UInt8), (69 : UInt8)] } ++ [IntKind.u8.wrap a.fst, IntKind.u8.wrap (rootR (↑a.snd.snd.snd.length : Int)).fst]).length + (4 : Nat)) * (1 : Nat) ≤ (140737488355328 : Nat)), ∃ (h :
  (256 : Int) ≠ (0 : Int)), ∃ (h : (256 : Int) ≠ (0 : Int)), ∃ (h : (256 : Int) ≠ (0 : Int)), ∃ (h : (65536 : Int) ≠ (0 : Int)), ∃ (h : (256 : Int) ≠ (0 : Int)), ∃ (h : (16777216 :
  Int) ≠ (0 : Int)), ∃ (h : ([] ++ strBytes { data := #[(84 : UInt8), (73 : UInt8), (76 : UInt8), (69 : UInt8)] } ++ [IntKind.u8.wrap a.fst, IntKind.u8.wrap (rootR
  (↑a.snd.snd.snd.length : Int)).fst]).length + (4 : Nat) = ([] ++ strBytes { data := #[(84 : UInt8), (73 : UInt8), (76 : UInt8), (69 : UInt8)] } ++ [IntKind.u8.wrap a.fst,
  IntKind.u8.wrap (rootR (↑a.snd.snd.snd.length : Int)).fst] ++ [IntKind.u8.wrap (a.snd.fst.tmod (256 : Int)), IntKind.u8.wrap ((IntKind.u32.wrap (a.snd.fst.tdiv (256 : Int))).tmod
  (256 : Int)), IntKind.u8.wrap ((IntKind.u32.wrap (a.snd.fst.tdiv (65536 : Int))).tmod (256 : Int)), IntKind.u8.wrap (IntKind.u32.wrap (a.snd.fst.tdiv (16777216 : Int)))]).length ∧
  (([] ++ strBytes { data := #[(84 : UInt8), (73 : UInt8), (76 : UInt8), (69 : UInt8)] } ++ [IntKind.u8.wrap a.fst, IntKind.u8.wrap (rootR (↑a.snd.snd.snd.length : Int)).fst] ++
  [IntKind.u8.wrap (a.snd.fst.tmod (256 : Int)), IntKind.u8.wrap ((IntKind.u32.wrap (a.snd.fst.tdiv (256 : Int))).tmod (256 : Int)), IntKind.u8.wrap ((IntKind.u32.wrap
  (a.snd.fst.tdiv (65536 : Int))).tmod (256 : Int)), IntKind.u8.wrap (IntKind.u32.wrap (a.snd.fst.tdiv (16777216 : Int)))]).length + (4 : Nat)) * (1 : Nat) ≤ (140737488355328 :
  Nat)), ((0 : Nat) = (0 : Nat) ∧ ([] ++ strBytes { data := #[(84 : UInt8), (73 : UInt8), (76 : UInt8), (69 : UInt8)] } ++ [IntKind.u8.wrap a.fst, IntKind.u8.wrap (rootR
  (↑a.snd.snd.snd.length : Int)).fst] ++ [IntKind.u8.wrap (a.snd.fst.tmod (256 : Int)), IntKind.u8.wrap ((IntKind.u32.wrap (a.snd.fst.tdiv (256 : Int))).tmod (256 : Int)),
  IntKind.u8.wrap ((IntKind.u32.wrap (a.snd.fst.tdiv (65536 : Int))).tmod (256 : Int)), IntKind.u8.wrap (IntKind.u32.wrap (a.snd.fst.tdiv (16777216 : Int)))]).length + (4 : Nat) =
  ([] ++ strBytes { data := #[(84 : UInt8), (73 : UInt8), (76 : UInt8), (69 : UInt8)] } ++ [IntKind.u8.wrap a.fst, IntKind.u8.wrap (rootR (↑a.snd.snd.snd.length : Int)).fst] ++
  [IntKind.u8.wrap (a.snd.fst.tmod (256 : Int)), IntKind.u8.wrap ((IntKind.u32.wrap (a.snd.fst.tdiv (256 : Int))).tmod (256 : Int)), IntKind.u8.wrap ((IntKind.u32.wrap
  (a.snd.fst.tdiv (65536 : Int))).tmod (256 : Int)), IntKind.u8.wrap (IntKind.u32.wrap (a.snd.fst.tdiv (16777216 : Int)))] ++ [IntKind.u8.wrap (a.snd.snd.fst.tmod (256 : Int)),
  IntKind.u8.wrap ((IntKind.u32.wrap (a.snd.snd.fst.tdiv (256 : Int))).tmod (256 : Int)), IntKind.u8.wrap ((IntKind.u32.wrap (a.snd.snd.fst.tdiv (65536 : Int))).tmod (256 : Int)),
  IntKind.u8.wrap (IntKind.u32.wrap (a.snd.snd.fst.tdiv (16777216 : Int)))]).length) ∧ HIs [HObj.box Md.rw ty25 [SV.val (Go.Value.int IntKind.i64 a.fst), SV.val (Go.Value.int
  IntKind.u32 a.snd.fst), SV.val (Go.Value.int IntKind.u32 a.snd.snd.fst), SV.data (K.int IntKind.u32).slice a.snd.snd.snd], HObj.dead, HObj.dead, HObj.row Md.rw ty5 (K.int
  IntKind.u8) [IntKind.u8.wrap a.fst, IntKind.u8.wrap (rootR (↑a.snd.snd.snd.length : Int)).fst], HObj.dead, HObj.row Md.rw ty5 (K.int IntKind.u8) [IntKind.u8.wrap (a.snd.fst.tmod
  (256 : Int)), IntKind.u8.wrap ((IntKind.u32.wrap (a.snd.fst.tdiv (256 : Int))).tmod (256 : Int)), IntKind.u8.wrap ((IntKind.u32.wrap (a.snd.fst.tdiv (65536 : Int))).tmod (256 :
  Int)), IntKind.u8.wrap (IntKind.u32.wrap (a.snd.fst.tdiv (16777216 : Int)))], HObj.dead, HObj.row Md.rw ty5 (K.int IntKind.u8) [IntKind.u8.wrap (a.snd.snd.fst.tmod (256 : Int)),
  IntKind.u8.wrap ((IntKind.u32.wrap (a.snd.snd.fst.tdiv (256 : Int))).tmod (256 : Int)), IntKind.u8.wrap ((IntKind.u32.wrap (a.snd.snd.fst.tdiv (65536 : Int))).tmod (256 : Int)),
  IntKind.u8.wrap (IntKind.u32.wrap (a.snd.snd.fst.tdiv (16777216 : Int)))], HObj.dead] [HObj.box Md.rw ty25 [SV.val (Go.Value.int IntKind.i64 a.fst), SV.val (Go.Value.int
  IntKind.u32 a.snd.fst), SV.val (Go.Value.int IntKind.u32 a.snd.snd.fst), SV.data (K.int IntKind.u32).slice a.snd.snd.snd], HObj.dead, HObj.dead, HObj.row Md.rw ty5 (K.int
  IntKind.u8) [IntKind.u8.wrap a.fst, IntKind.u8.wrap (rootR (↑a.snd.snd.snd.length : Int)).fst], HObj.dead, HObj.row Md.rw ty5 (K.int IntKind.u8) [IntKind.u8.wrap (a.snd.fst.tmod
  (256 : Int)), IntKind.u8.wrap ((IntKind.u32.wrap (a.snd.fst.tdiv (256 : Int))).tmod (256 : Int)), IntKind.u8.wrap ((IntKind.u32.wrap (a.snd.fst.tdiv (65536 : Int))).tmod (256 :
  Int)), IntKind.u8.wrap (IntKind.u32.wrap (a.snd.fst.tdiv (16777216 : Int)))], HObj.dead, HObj.row Md.rw ty5 (K.int IntKind.u8) [IntKind.u8.wrap (a.snd.snd.fst.tmod (256 : Int)),
  IntKind.u8.wrap ((IntKind.u32.wrap (a.snd.snd.fst.tdiv (256 : Int))).tmod (256 : Int)), IntKind.u8.wrap ((IntKind.u32.wrap (a.snd.snd.fst.tdiv (65536 : Int))).tmod (256 : Int)),
  IntKind.u8.wrap (IntKind.u32.wrap (a.snd.snd.fst.tdiv (16777216 : Int)))], HObj.dead] ∧ ∃ (I : List Int × Int × Int × Unit → Unit → Prop), ∃ (μ : List Int × Int × Int × Unit →
  Unit → Nat), I ([] ++ strBytes { data := #[(84 : UInt8), (73 : UInt8), (76 : UInt8), (69 : UInt8)] } ++ [IntKind.u8.wrap a.fst, IntKind.u8.wrap (rootR (↑a.snd.snd.snd.length :
  Int)).fst] ++ [IntKind.u8.wrap (a.snd.fst.tmod (256 : Int)), IntKind.u8.wrap ((IntKind.u32.wrap (a.snd.fst.tdiv (256 : Int))).tmod (256 : Int)), IntKind.u8.wrap ((IntKind.u32.wrap
  (a.snd.fst.tdiv (65536 : Int))).tmod (256 : Int)), IntKind.u8.wrap (IntKind.u32.wrap (a.snd.fst.tdiv (16777216 : Int)))] ++ [IntKind.u8.wrap (a.snd.snd.fst.tmod (256 : Int)),
  IntKind.u8.wrap ((IntKind.u32.wrap (a.snd.snd.fst.tdiv (256 : Int))).tmod (256 : Int)), IntKind.u8.wrap ((IntKind.u32.wrap (a.snd.snd.fst.tdiv (65536 : Int))).tmod (256 : Int)),
  IntKind.u8.wrap (IntKind.u32.wrap (a.snd.snd.fst.tdiv (16777216 : Int)))], (0 : Int), (0 : Int), ()) () ∧ ∀ (x : List Int × Int × Int × Unit) (y : Unit), I x y → ∀ (a_2 : Bool),
  a_2 = decide (x.snd.snd.fst < (↑a.snd.snd.snd.length : Int)) → Br a_2 (∃ (h : (0 : Int) ≤ x.snd.snd.fst ∧ x.snd.snd.fst < (↑a.snd.snd.snd.length : Int)), ∃ (h : (256 : Int) ≠ (0 :
  Int)), ∃ (h : (256 : Int) ≠ (0 : Int)), ∃ (h : (256 : Int) ≠ (0 : Int)), ∃ (h : (65536 : Int) ≠ (0 : Int)), ∃ (h : (256 : Int) ≠ (0 : Int)), ∃ (h : (16777216 : Int) ≠ (0 : Int)),
  ∃ (h : x.fst.length = x.fst.length ∧ (x.fst.length + (4 : Nat)) * (1 : Nat) ≤ (140737488355328 : Nat)), ∃ (h : (0 : Int) ≤ x.snd.snd.fst ∧ x.snd.snd.fst < (↑a.snd.snd.snd.length :
  Int)), ((0 : Nat) = (0 : Nat) ∧ x.fst.length + (4 : Nat) = (x.fst ++ [IntKind.u8.wrap ((Go.bits Go.BinOp.xor IntKind.u32 (a.snd.snd.snd.getD x.snd.snd.fst.toNat (0 : Int))
  x.snd.fst).tmod (256 : Int)), IntKind.u8.wrap ((IntKind.u32.wrap ((Go.bits Go.BinOp.xor IntKind.u32 (a.snd.snd.snd.getD x.snd.snd.fst.toNat (0 : Int)) x.snd.fst).tdiv (256 :
  Int))).tmod (256 : Int)), IntKind.u8.wrap ((IntKind.u32.wrap ((Go.bits Go.BinOp.xor IntKind.u32 (a.snd.snd.snd.getD x.snd.snd.fst.toNat (0 : Int)) x.snd.fst).tdiv (65536 :
  Int))).tmod (256 : Int)), IntKind.u8.wrap (IntKind.u32.wrap ((Go.bits Go.BinOp.xor IntKind.u32 (a.snd.snd.snd.getD x.snd.snd.fst.toNat (0 : Int)) x.snd.fst).tdiv (16777216 :
  Int)))]).length) ∧ HIs [HObj.box Md.rw ty25 [SV.val (Go.Value.int IntKind.i64 a.fst), SV.val (Go.Value.int IntKind.u32 a.snd.fst), SV.val (Go.Value.int IntKind.u32 a.snd.snd.fst),
  SV.data (K.int IntKind.u32).slice a.snd.snd.snd], HObj.dead, HObj.dead, HObj.row Md.rw ty5 (K.int IntKind.u8) [IntKind.u8.wrap a.fst, IntKind.u8.wrap (rootR (↑a.snd.snd.snd.length
  : Int)).fst], HObj.dead, HObj.row Md.rw ty5 (K.int IntKind.u8) [IntKind.u8.wrap (a.snd.fst.tmod (256 : Int)), IntKind.u8.wrap ((IntKind.u32.wrap (a.snd.fst.tdiv (256 : Int))).tmod
  (256 : Int)), IntKind.u8.wrap ((IntKind.u32.wrap (a.snd.fst.tdiv (65536 : Int))).tmod (256 : Int)), IntKind.u8.wrap (IntKind.u32.wrap (a.snd.fst.tdiv (16777216 : Int)))],
  HObj.dead, HObj.row Md.rw ty5 (K.int IntKind.u8) [IntKind.u8.wrap (a.snd.snd.fst.tmod (256 : Int)), IntKind.u8.wrap ((IntKind.u32.wrap (a.snd.snd.fst.tdiv (256 : Int))).tmod (256
  : Int)), IntKind.u8.wrap ((IntKind.u32.wrap (a.snd.snd.fst.tdiv (65536 : Int))).tmod (256 : Int)), IntKind.u8.wrap (IntKind.u32.wrap (a.snd.snd.fst.tdiv (16777216 : Int)))],
  HObj.dead] [HObj.box Md.rw ty25 [SV.val (Go.Value.int IntKind.i64 a.fst), SV.val (Go.Value.int IntKind.u32 a.snd.fst), SV.val (Go.Value.int IntKind.u32 a.snd.snd.fst), SV.data
  (K.int IntKind.u32).slice a.snd.snd.snd], HObj.dead, HObj.dead, HObj.row Md.rw ty5 (K.int IntKind.u8) [IntKind.u8.wrap a.fst, IntKind.u8.wrap (rootR (↑a.snd.snd.snd.length :
  Int)).fst], HObj.dead, HObj.row Md.rw ty5 (K.int IntKind.u8) [IntKind.u8.wrap (a.snd.fst.tmod (256 : Int)), IntKind.u8.wrap ((IntKind.u32.wrap (a.snd.fst.tdiv (256 : Int))).tmod
  (256 : Int)), IntKind.u8.wrap ((IntKind.u32.wrap (a.snd.fst.tdiv (65536 : Int))).tmod (256 : Int)), IntKind.u8.wrap (IntKind.u32.wrap (a.snd.fst.tdiv (16777216 : Int)))],
  HObj.dead, HObj.row Md.rw ty5 (K.int IntKind.u8) [IntKind.u8.wrap (a.snd.snd.fst.tmod (256 : Int)), IntKind.u8.wrap ((IntKind.u32.wrap (a.snd.snd.fst.tdiv (256 : Int))).tmod (256
  : Int)), IntKind.u8.wrap ((IntKind.u32.wrap (a.snd.snd.fst.tdiv (65536 : Int))).tmod (256 : Int)), IntKind.u8.wrap (IntKind.u32.wrap (a.snd.snd.fst.tdiv (16777216 : Int)))],
  HObj.dead] ∧ I (x.fst ++ [IntKind.u8.wrap ((Go.bits Go.BinOp.xor IntKind.u32 (a.snd.snd.snd.getD x.snd.snd.fst.toNat (0 : Int)) x.snd.fst).tmod (256 : Int)), IntKind.u8.wrap
  ((IntKind.u32.wrap ((Go.bits Go.BinOp.xor IntKind.u32 (a.snd.snd.snd.getD x.snd.snd.fst.toNat (0 : Int)) x.snd.fst).tdiv (256 : Int))).tmod (256 : Int)), IntKind.u8.wrap
  ((IntKind.u32.wrap ((Go.bits Go.BinOp.xor IntKind.u32 (a.snd.snd.snd.getD x.snd.snd.fst.toNat (0 : Int)) x.snd.fst).tdiv (65536 : Int))).tmod (256 : Int)), IntKind.u8.wrap
  (IntKind.u32.wrap ((Go.bits Go.BinOp.xor IntKind.u32 (a.snd.snd.snd.getD x.snd.snd.fst.toNat (0 : Int)) x.snd.fst).tdiv (16777216 : Int)))], a.snd.snd.snd.getD x.snd.snd.fst.toNat
  (0 : Int), IntKind.i64.wrap (x.snd.snd.fst + (1 : Int)), ()) () ∧ μ (x.fst ++ [IntKind.u8.wrap ((Go.bits Go.BinOp.xor IntKind.u32 (a.snd.snd.snd.getD x.snd.snd.fst.toNat (0 :
  Int)) x.snd.fst).tmod (256 : Int)), IntKind.u8.wrap ((IntKind.u32.wrap ((Go.bits Go.BinOp.xor IntKind.u32 (a.snd.snd.snd.getD x.snd.snd.fst.toNat (0 : Int)) x.snd.fst).tdiv (256 :
  Int))).tmod (256 : Int)), IntKind.u8.wrap ((IntKind.u32.wrap ((Go.bits Go.BinOp.xor IntKind.u32 (a.snd.snd.snd.getD x.snd.snd.fst.toNat (0 : Int)) x.snd.fst).tdiv (65536 :
  Int))).tmod (256 : Int)), IntKind.u8.wrap (IntKind.u32.wrap ((Go.bits Go.BinOp.xor IntKind.u32 (a.snd.snd.snd.getD x.snd.snd.fst.toNat (0 : Int)) x.snd.fst).tdiv (16777216 :
  Int)))], a.snd.snd.snd.getD x.snd.snd.fst.toNat (0 : Int), IntKind.i64.wrap (x.snd.snd.fst + (1 : Int)), ()) () < μ x y) (post (List.take x.fst.length (List.drop (0 : Nat) x.fst),
  (0 : Int), ())))
theorem Lx_ref24_Encode (ty0 ty1 : Nat) (a : Int × Int × Int × List Int) (h : TiOk a) (w : KS.wf [kTile] (a, ())) : Fx_ref24_Encode ty0 ty1 a (fun r => r = encodeR a) := by
  obtain ⟨hf, hle, hmo, hce⟩ := h
  have fin : goodT a = false → (([] : List Int), (1 : Int), ()) = encodeR a := by intro q; unfold encodeR; rw [if_neg (by rw [q]; decide)]
  refine ⟨⟨hf, hle, hmo, hce⟩, ?_⟩
  rintro _ rfl
  refine Br.intro (fun e => fin ?_) fun e => ?_
  · have e : (!goodT a) = true := e
    simpa using e
  have g : goodT a = true := by have e : (!goodT a) = false := e; simpa using e
  obtain ⟨f0, f5, r1', r2', r3', l1, l2, _⟩ := good_facts g
  have wf' : IntKind.u8.wrap a.1 = a.1 := by rw [wrap_u8]; omega
  have wr : IntKind.u8.wrap (rootR (a.2.2.2.length : Int)).1 = rootI a.2.2.2.length := by rw [wrap_u8]; show rootI a.2.2.2.length % 256 = _; omega
  rw [tileS_eq, word_ref hle, word_ref hmo, wf', wr]
  generalize hH : ([] ++ [84, 73, 76, 69] ++ [a.1, rootI a.2.2.2.length] ++ bytes4 a.2.1 ++ bytes4 a.2.2.1 : List Int) = H
  have hHl : H.length = 14 := by rw [← hH]; rfl
  have he : encodeR a = (H ++ encL 0 a.2.2.2, 0, ()) := by
    unfold encodeR; rw [if_pos g, ← hH]
    unfold encT
    simp only [List.append_assoc, List.nil_append, List.cons_append]
  refine ⟨⟨rfl, by decide⟩, ⟨by omega, by omega⟩, ⟨rfl, by decide⟩, by decide, by decide, by decide, by decide, by decide, by decide, ⟨rfl, Nat.le_of_ble_eq_true rfl⟩, by decide, by decide, by decide, by decide, by decide, by decide, ⟨rfl, Nat.le_of_ble_eq_true rfl⟩, ⟨rfl, by rw [hHl]; rfl⟩, rfl,
    fun x _ => ∃ (i : Nat) (D : List Int), x.2.2.1 = i ∧ i ≤ a.2.2.2.length ∧ x.1 = H ++ D ∧ U32 x.2.1 ∧ D.length = 4 * i ∧ encL 0 a.2.2.2 = D ++ encL x.2.1 (a.2.2.2.drop i), fun x _ => a.2.2.2.length - x.2.2.1.toNat, ⟨0, [], rfl, by omega, (List.append_nil _).symm, ⟨Int.le_refl 0, by show (0 : Int) < 4294967296; decide⟩, rfl, rfl⟩, ?_⟩
  rintro ⟨_, p, _, ⟨⟩⟩ _ ⟨i, D, rfl, hil, rfl, hp, hD, hE⟩
  dsimp only at hp hE ⊢
  have hxl : (H ++ D).length = 14 + 4 * i := by rw [List.length_append, hHl, hD]
  rintro _ rfl
  refine Br.intro (fun e => ?_) fun e => ?_
  · have e : i < a.2.2.2.length := by have := of_decide_eq_true e; omega
    rw [Int.toNat_natCast, wi_succ e (by omega)]
    have hc := hce _ (getD_mem e 0)
    rw [xor_u32 hc hp, word_ref (xorI_rng hc hp), hxl]
    rw [drop_step e 0, encL_cons] at hE
    refine ⟨⟨by omega, by omega⟩, by decide, by decide, by decide, by decide, by decide, by decide, ⟨rfl, by omega⟩, ⟨by omega, by omega⟩, ⟨rfl, by rw [List.length_append, hxl]; rfl⟩, rfl, ⟨i + 1, D ++ bytes4 (xorI (a.2.2.2.getD i 0) p), rfl, by omega, List.append_assoc _ _ _, hc, by rw [List.length_append, hD]; show _ + 4 = _; omega, by rw [hE, List.append_assoc]⟩, by omega⟩
  · have e : ¬ i < a.2.2.2.length := by have := of_decide_eq_false e; omega
    rw [List.drop_eq_nil_of_le (by omega)] at hE
    have hE2 : encL 0 a.2.2.2 = D := by rw [hE]; exact List.append_nil _
    rw [he, hE2, List.drop_zero, List.take_of_length_le (Nat.le_refl _)]
def Fx_ref24_Decode := fun (ty25 : Nat) (b : List Int) (post : (Int × Int × Int × List Int) × Int × Unit → Prop) => ∀ (a : Bool), a = decide ((↑b.length : Int) < (14 : Int)) → Br a
  (post (((0 : Int), (0 : Int), (0 : Int), []), (31 : Int), ())) (∃ (h : (0 : Int) ≤ (5 : Int) ∧ (5 : Int) < (↑b.length : Int)), ∃ (h : (0 : Int) ≤ (0 : Int) ∧ (0 : Int) ≤ (4 : Int)
  ∧ (4 : Int) ≤ (↑b.length : Int)), ∀ (a : Bool), (a = if Bool.true = Bool.true then !decide (List.map byteOf (List.take ((4 : Int) - (0 : Int)).toNat (List.drop (Int.toNat (0 :
  Int)) b)) = strBytes { data := #[(84 : UInt8), (73 : UInt8), (76 : UInt8), (69 : UInt8)] }) else decide (List.map byteOf (List.take ((4 : Int) - (0 : Int)).toNat (List.drop
  (Int.toNat (0 : Int)) b)) = strBytes { data := #[(84 : UInt8), (73 : UInt8), (76 : UInt8), (69 : UInt8)] })) → Br a (post (((0 : Int), (0 : Int), (0 : Int), []), (30 : Int), ()))
  (∃ (h : (0 : Int) ≤ (4 : Int) ∧ (4 : Int) < (↑b.length : Int)), ∀ (a : Bool), a = decide (b.getD (Int.toNat (4 : Int)) (0 : Int) > (5 : Int)) → Br a (post (((0 : Int), (0 : Int),
  (0 : Int), []), (30 : Int), ())) (∀ (a : Bool), a = decide (IntKind.i64.wrap (b.getD (Int.toNat (5 : Int)) (0 : Int)) < (1 : Int)) → Br a (post (((0 : Int), (0 : Int), (0 : Int),
  []), (30 : Int), ())) (∀ (a : Bool), a = decide (IntKind.i64.wrap (b.getD (Int.toNat (5 : Int)) (0 : Int)) > (32 : Int)) → Br a (post (((0 : Int), (0 : Int), (0 : Int), []), (30 :
  Int), ())) (∀ (a : Bool), a = decide ((↑b.length : Int) < IntKind.i64.wrap ((14 : Int) + IntKind.i64.wrap (IntKind.i64.wrap ((4 : Int) * IntKind.i64.wrap (b.getD (Int.toNat (5 :
  Int)) (0 : Int))) * IntKind.i64.wrap (b.getD (Int.toNat (5 : Int)) (0 : Int))))) → Br a (post (((0 : Int), (0 : Int), (0 : Int), []), (31 : Int), ())) (∀ (a : Bool), a = decide
  ((↑b.length : Int) > IntKind.i64.wrap ((14 : Int) + IntKind.i64.wrap (IntKind.i64.wrap ((4 : Int) * IntKind.i64.wrap (b.getD (Int.toNat (5 : Int)) (0 : Int))) * IntKind.i64.wrap
  (b.getD (Int.toNat (5 : Int)) (0 : Int))))) → Br a (post (((0 : Int), (0 : Int), (0 : Int), []), (3 : Int), ())) (∃ (h : (0 : Int) ≤ (4 : Int) ∧ (4 : Int) < (↑b.length : Int)), ∃
  (h : (0 : Int) ≤ (6 : Int) ∧ (6 : Int) ≤ (↑b.length : Int) ∧ (↑b.length : Int) ≤ (↑b.length : Int)), ∃ (h : WNum4 (List.take ((↑b.length : Int) - (6 : Int)).toNat (List.drop
  (Int.toNat (6 : Int)) b))), ∃ (h : (0 : Int) ≤ (10 : Int) ∧ (10 : Int) ≤ (↑b.length : Int) ∧ (↑b.length : Int) ≤ (↑b.length : Int)), ∃ (h : WNum4 (List.take ((↑b.length : Int) -
  (10 : Int)).toNat (List.drop (Int.toNat (10 : Int)) b))), HIs [HObj.box Md.rw ty25 [SV.val (Go.Value.int IntKind.i64 (0 : Int)), SV.val (Go.Value.int IntKind.u32 (0 : Int)),
  SV.val (Go.Value.int IntKind.u32 (0 : Int)), SV.val (Go.Value.slice Option.none (0 : Nat) (0 : Nat))], HObj.box Md.rw ty25 [SV.val (Go.Value.int IntKind.i64 (IntKind.i64.wrap
  (b.getD (Int.toNat (4 : Int)) (0 : Int)))), SV.val (Go.Value.int IntKind.u32 (num4R (List.take ((↑b.length : Int) - (6 : Int)).toNat (List.drop (Int.toNat (6 : Int)) b))).fst),
  SV.val (Go.Value.int IntKind.u32 (num4R (List.take ((↑b.length : Int) - (10 : Int)).toNat (List.drop (Int.toNat (10 : Int)) b))).fst), SV.junk]] [HObj.box Md.rw ty25 [SV.val
  (Go.Value.int IntKind.i64 (0 : Int)), SV.val (Go.Value.int IntKind.u32 (0 : Int)), SV.val (Go.Value.int IntKind.u32 (0 : Int)), SV.val (Go.Value.slice Option.none (0 : Nat) (0 :
  Nat))], HObj.box Md.rw ty25 [SV.val (Go.Value.int IntKind.i64 (IntKind.i64.wrap (b.getD (Int.toNat (4 : Int)) (0 : Int)))), SV.val (Go.Value.int IntKind.u32 (num4R (List.take
  ((↑b.length : Int) - (6 : Int)).toNat (List.drop (Int.toNat (6 : Int)) b))).fst), SV.val (Go.Value.int IntKind.u32 (num4R (List.take ((↑b.length : Int) - (10 : Int)).toNat
  (List.drop (Int.toNat (10 : Int)) b))).fst), SV.junk]] ∧ ∃ (I : Int × Int × List Int × Unit → Unit → Prop), ∃ (μ : Int × Int × List Int × Unit → Unit → Nat), I ((0 : Int), (0 :
  Int), [], ()) () ∧ ∀ (x : Int × Int × List Int × Unit) (y : Unit), I x y → ∀ (a : Bool), a = decide (x.snd.fst < IntKind.i64.wrap (IntKind.i64.wrap (b.getD (Int.toNat (5 : Int))
  (0 : Int)) * IntKind.i64.wrap (b.getD (Int.toNat (5 : Int)) (0 : Int)))) → Br a (∃ (h : (0 : Int) ≤ IntKind.i64.wrap ((14 : Int) + IntKind.i64.wrap ((4 : Int) * x.snd.fst)) ∧
  IntKind.i64.wrap ((14 : Int) + IntKind.i64.wrap ((4 : Int) * x.snd.fst)) ≤ (↑b.length : Int) ∧ (↑b.length : Int) ≤ (↑b.length : Int)), ∃ (h : WNum4 (List.take ((↑b.length : Int) -
  IntKind.i64.wrap ((14 : Int) + IntKind.i64.wrap ((4 : Int) * x.snd.fst))).toNat (List.drop (IntKind.i64.wrap ((14 : Int) + IntKind.i64.wrap ((4 : Int) * x.snd.fst))).toNat b))), ∃
  (h : x.snd.snd.fst.length = x.snd.snd.fst.length ∧ (x.snd.snd.fst.length + (1 : Nat)) * (4 : Nat) ≤ (140737488355328 : Nat)), ((0 : Nat) = (0 : Nat) ∧ x.snd.snd.fst.length + (1 :
  Nat) = (x.snd.snd.fst ++ [Go.bits Go.BinOp.xor IntKind.u32 x.fst (num4R (List.take ((↑b.length : Int) - IntKind.i64.wrap ((14 : Int) + IntKind.i64.wrap ((4 : Int) *
  x.snd.fst))).toNat (List.drop (IntKind.i64.wrap ((14 : Int) + IntKind.i64.wrap ((4 : Int) * x.snd.fst))).toNat b))).fst]).length) ∧ HIs [HObj.box Md.rw ty25 [SV.val (Go.Value.int
  IntKind.i64 (0 : Int)), SV.val (Go.Value.int IntKind.u32 (0 : Int)), SV.val (Go.Value.int IntKind.u32 (0 : Int)), SV.val (Go.Value.slice Option.none (0 : Nat) (0 : Nat))],
  HObj.box Md.rw ty25 [SV.val (Go.Value.int IntKind.i64 (IntKind.i64.wrap (b.getD (Int.toNat (4 : Int)) (0 : Int)))), SV.val (Go.Value.int IntKind.u32 (num4R (List.take ((↑b.length
  : Int) - (6 : Int)).toNat (List.drop (Int.toNat (6 : Int)) b))).fst), SV.val (Go.Value.int IntKind.u32 (num4R (List.take ((↑b.length : Int) - (10 : Int)).toNat (List.drop
  (Int.toNat (10 : Int)) b))).fst), SV.junk]] [HObj.box Md.rw ty25 [SV.val (Go.Value.int IntKind.i64 (0 : Int)), SV.val (Go.Value.int IntKind.u32 (0 : Int)), SV.val (Go.Value.int
  IntKind.u32 (0 : Int)), SV.val (Go.Value.slice Option.none (0 : Nat) (0 : Nat))], HObj.box Md.rw ty25 [SV.val (Go.Value.int IntKind.i64 (IntKind.i64.wrap (b.getD (Int.toNat (4 :
  Int)) (0 : Int)))), SV.val (Go.Value.int IntKind.u32 (num4R (List.take ((↑b.length : Int) - (6 : Int)).toNat (List.drop (Int.toNat (6 : Int)) b))).fst), SV.val (Go.Value.int
  IntKind.u32 (num4R (List.take ((↑b.length : Int) - (10 : Int)).toNat (List.drop (Int.toNat (10 : Int)) b))).fst), SV.junk]] ∧ I (Go.bits Go.BinOp.xor IntKind.u32 x.fst (num4R
  (List.take ((↑b.length : Int) - IntKind.i64.wrap ((14 : Int) + IntKind.i64.wrap ((4 : Int) * x.snd.fst))).toNat (List.drop (IntKind.i64.wrap ((14 : Int) + IntKind.i64.wrap ((4 :
  Int) * x.snd.fst))).toNat b))).fst, IntKind.i64.wrap (x.snd.fst + (1 : Int)), x.snd.snd.fst ++ [Go.bits Go.BinOp.xor IntKind.u32 x.fst (num4R (List.take ((↑b.length : Int) -
  IntKind.i64.wrap ((14 : Int) + IntKind.i64.wrap ((4 : Int) * x.snd.fst))).toNat (List.drop (IntKind.i64.wrap ((14 : Int) + IntKind.i64.wrap ((4 : Int) * x.snd.fst))).toNat
  b))).fst], ()) () ∧ μ (Go.bits Go.BinOp.xor IntKind.u32 x.fst (num4R (List.take ((↑b.length : Int) - IntKind.i64.wrap ((14 : Int) + IntKind.i64.wrap ((4 : Int) *
  x.snd.fst))).toNat (List.drop (IntKind.i64.wrap ((14 : Int) + IntKind.i64.wrap ((4 : Int) * x.snd.fst))).toNat b))).fst, IntKind.i64.wrap (x.snd.fst + (1 : Int)), x.snd.snd.fst ++
  [Go.bits Go.BinOp.xor IntKind.u32 x.fst (num4R (List.take ((↑b.length : Int) - IntKind.i64.wrap ((14 : Int) + IntKind.i64.wrap ((4 : Int) * x.snd.fst))).toNat (List.drop
  (IntKind.i64.wrap ((14 : Int) + IntKind.i64.wrap ((4 : Int) * x.snd.fst))).toNat b))).fst], ()) () < μ x y) (∃ (h : TiOk (IntKind.i64.wrap (b.getD (Int.toNat (4 : Int)) (0 :
  Int)), (num4R (List.take ((↑b.length : Int) - (6 : Int)).toNat (List.drop (Int.toNat (6 : Int)) b))).fst, (num4R (List.take ((↑b.length : Int) - (10 : Int)).toNat (List.drop
  (Int.toNat (10 : Int)) b))).fst, List.take x.snd.snd.fst.length (List.drop (0 : Nat) x.snd.snd.fst))), ∀ (a : Bool), a = (goodTR (IntKind.i64.wrap (b.getD (Int.toNat (4 : Int)) (0
  : Int)), (num4R (List.take ((↑b.length : Int) - (6 : Int)).toNat (List.drop (Int.toNat (6 : Int)) b))).fst, (num4R (List.take ((↑b.length : Int) - (10 : Int)).toNat (List.drop
  (Int.toNat (10 : Int)) b))).fst, List.take x.snd.snd.fst.length (List.drop (0 : Nat) x.snd.snd.fst))).fst → Br (!a) (post (((0 : Int), (0 : Int), (0 : Int), []), (30 : Int), ()))
  (post ((IntKind.i64.wrap (b.getD (Int.toNat (4 : Int)) (0 : Int)), (num4R (List.take ((↑b.length : Int) - (6 : Int)).toNat (List.drop (Int.toNat (6 : Int)) b))).fst, (num4R
  (List.take ((↑b.length : Int) - (10 : Int)).toNat (List.drop (Int.toNat (10 : Int)) b))).fst, List.take x.snd.snd.fst.length (List.drop (0 : Nat) x.snd.snd.fst)), (0 : Int),
  ()))))))))))
theorem Lx_ref24_Decode (ty0 : Nat) (b : List Int) (h : BLs b) (w : KS.wf [.slice (.int .u8)] (b, ())) : Fx_ref24_Decode ty0 b (fun r => r = decodeR b) := by
  have U : ∀ k, k < b.length → U8 (b.getD k 0) := fun k hk => h _ (getD_mem hk 0)
  have hl : b.length ≤ maxN := w.1.1
  unfold maxN at hl
  have fin : ∀ t e, decodeT b = (t, e) → (t, e, ()) = decodeR b := by intro t e q; show _ = ((decodeT b).1, (decodeT b).2, ()); rw [q]
  rintro _ rfl
  refine Br.intro (fun e => fin _ _ ?_) fun e => ?_
  · unfold decodeT; rw [if_pos (by have := of_decide_eq_true e; omega)]; rfl
  have e0 : ¬ b.length < 14 := by have := of_decide_eq_false e; omega
  obtain ⟨w5', w55, w14⟩ := wrap_small (U 5 (by omega))
  have w5 : IntKind.i64.wrap (b.getD (Int.toNat (5 : Int)) (0 : Int)) = b.getD 5 0 := w5'
  have w4 : IntKind.i64.wrap (b.getD (Int.toNat (4 : Int)) (0 : Int)) = b.getD 4 0 := (wrap_small (U 4 (by omega))).1
  have u4 := U 4 (by omega)
  have u5 := U 5 (by omega)
  have bad : (b.take 4 ≠ [84, 73, 76, 69] ∨ b.getD 4 0 > 5 ∨ b.getD 5 0 < 1 ∨ b.getD 5 0 > 32) → decodeT b = (zeroT, 30) := by
    intro q; unfold decodeT; rw [if_neg e0, if_pos q]
  
  rw [w5, w4, w14, w55, tail_eq (b := b) (j := 6) 6 rfl, tail_eq (b := b) (j := 10) 10 rfl, num4_drop, num4_drop, head_eq h]
  refine ⟨⟨by omega, by omega⟩, ⟨by omega, by omega, by omega⟩, ?_⟩
  
  rintro _ rfl
  refine Br.intro (fun e => fin _ _ (bad (.inl ?_))) fun e => ?_
  · have e : (!decide (b.take 4 = [84, 73, 76, 69])) = true := e
    simpa using e
  have g0 : b.take 4 = [84, 73, 76, 69] := by have e : (!decide (b.take 4 = [84, 73, 76, 69])) = false := e; simpa using e
  refine ⟨⟨by omega, by omega⟩, ?_⟩
  rintro _ rfl
  refine Br.intro (fun e => fin _ _ (bad (.inr (.inl (of_decide_eq_true e))))) fun e => ?_
  have g1 : ¬ b.getD 4 0 > 5 := of_decide_eq_false e
  rintro _ rfl
  refine Br.intro (fun e => fin _ _ (bad (.inr (.inr (.inl (of_decide_eq_true e)))))) fun e => ?_
  have g2 : ¬ b.getD 5 0 < 1 := of_decide_eq_false e
  rintro _ rfl
  refine Br.intro (fun e => fin _ _ (bad (.inr (.inr (.inr (of_decide_eq_true e)))))) fun e => ?_
  have g3 : ¬ b.getD 5 0 > 32 := of_decide_eq_false e
  have g : ¬ (b.take 4 ≠ [84, 73, 76, 69] ∨ b.getD 4 0 > 5 ∨ b.getD 5 0 < 1 ∨ b.getD 5 0 > 32) := by
    rintro (q | q | q | q)
    · exact q g0
    · exact g1 q
    · exact g2 q
    · exact g3 q
  rintro _ rfl
  refine Br.intro (fun e => fin _ _ ?_) fun e => ?_
  · have e : (b.length : Int) < 14 + 4 * b.getD 5 0 * b.getD 5 0 := of_decide_eq_true e
    unfold decodeT; rw [if_neg e0, if_neg g, if_pos e]; rfl
  have g4 : ¬ (b.length : Int) < 14 + 4 * b.getD 5 0 * b.getD 5 0 := of_decide_eq_false e
  rintro _ rfl
  refine Br.intro (fun e => fin _ _ ?_) fun e => ?_
  · have e : (b.length : Int) > 14 + 4 * b.getD 5 0 * b.getD 5 0 := of_decide_eq_true e
    unfold decodeT; rw [if_neg e0, if_neg g, if_neg g4, if_pos e]; rfl
  have g5 : ¬ (b.length : Int) > 14 + 4 * b.getD 5 0 * b.getD 5 0 := of_decide_eq_false e
  have base : decodeT b = if goodT (b.getD 4 0, num4 b 6, num4 b 10, decL b (b.getD 5 0 * b.getD 5 0).toNat 0 0) then ((b.getD 4 0, num4 b 6, num4 b 10, decL b (b.getD 5 0 * b.getD 5 0).toNat 0 0), 0) else (zeroT, 30) := by
    show (if b.length < 14 then _ else _) = _
    rw [if_neg e0, if_neg g, if_neg g4, if_neg g5]
  have sq := sq_bd (n := b.getD 5 0) (by omega) (by omega)
  rw [Int.mul_assoc] at g4 g5
  have rs := root_sq (n := b.getD 5 0) (by omega) (by omega)
  generalize hq : b.getD 5 0 * b.getD 5 0 = q at *
  obtain ⟨m, rfl⟩ : ∃ m : Nat, q = m := ⟨q.toNat, by omega⟩
  rw [Int.toNat_natCast] at base
  
  refine ⟨⟨by omega, by omega⟩, ⟨by omega, by omega, by omega⟩, wnum4_drop h (by omega), ⟨by omega, by omega, by omega⟩, wnum4_drop h (by omega), rfl, fun x _ => ∃ i : Nat, x.2.1 = i ∧ i ≤ m ∧ U32 x.1 ∧ x.2.2.1.length = i ∧ (∀ y ∈ x.2.2.1, U32 y) ∧ decL b m 0 0 = x.2.2.1 ++ decL b (m - i) i x.1, fun x _ => m - x.2.1.toNat, ⟨0, rfl, by omega, ⟨by decide, by decide⟩, rfl, (fun y hy => by cases hy), rfl⟩, ?_⟩
  rintro ⟨l, _, P, ⟨⟩⟩ _ ⟨i, rfl, him, hlr, hP, hPr, hd⟩
  dsimp only at hlr hP hPr hd ⊢
  rintro _ rfl
  refine Br.intro (fun e => ?_) fun e => ?_
  · have e : i < m := by have := of_decide_eq_true e; omega
    have wi4 : IntKind.i64.wrap (14 + IntKind.i64.wrap (4 * (i : Int))) = ((14 + 4 * i : Nat) : Int) := by
      rw [wi (x := 4 * (i : Int)) ⟨by omega, by omega⟩, wi ⟨by omega, by omega⟩]; omega
    have xr : Go.bits .xor .u32 l (r1 (num4 b (14 + 4 * i))).1 = xorI l (num4 b (14 + 4 * i)) := xor_u32 hlr (num4_rng h (by omega))
    rw [wi4, tail_eq (14 + 4 * i) rfl, num4_drop, wi_succ e (by omega), xr]
    obtain ⟨k, hk⟩ : ∃ k, m - i = k + 1 := ⟨m - i - 1, by omega⟩
    have hk2 : m - (i + 1) = k := by omega
    rw [hk, decL_succ] at hd
    have hx := xorI_rng hlr (num4_rng h (show 14 + 4 * i + 4 ≤ b.length by omega))
    refine ⟨⟨by omega, by omega, by omega⟩, wnum4_drop h (by omega), ⟨rfl, by omega⟩, ⟨rfl, by rw [List.length_append]; rfl⟩, rfl, ⟨i + 1, rfl, by omega, hx, by rw [List.length_append, hP]; rfl, ?_, ?_⟩, by omega⟩
    · intro y hy
      rcases List.mem_append.1 hy with hy | hy
      · exact hPr y hy
      · rcases List.mem_singleton.1 hy with rfl; exact hx
    · rw [hd, hk2, List.append_assoc]; rfl
  · have e : i = m := by have := of_decide_eq_false e; omega
    subst e
    have hP2 : List.take P.length (List.drop 0 P) = P := by
      rw [List.drop_zero, List.take_of_length_le (by omega)]
    rw [hP2]
    have hd2 : decL b i 0 0 = P := by rw [hd, Nat.sub_self]; exact List.append_nil _
    rw [hd2] at base
    refine ⟨⟨⟨by unfold U8 at u4; omega, by unfold U8 at u4; omega⟩, num4_rng h (by omega), num4_rng h (by omega), hPr⟩, ?_⟩
    rintro _ rfl
    refine Br.intro (fun f => fin _ _ ?_) fun f => fin _ _ ?_
    · have f : (!goodT (b.getD 4 0, num4 b 6, num4 b 10, P)) = true := f
      rw [base, if_neg (by intro q; rw [q] at f; cases f)]; rfl
    · have f : (!goodT (b.getD 4 0, num4 b 6, num4 b 10, P)) = false := f
      rw [base, if_pos (by simpa using f)]; rfl
end Go.Lift

/- Contracts of functions, of a seat. Own work. -/
set_option linter.unusedVariables false
set_option linter.unusedSimpArgs false
namespace Go.Lift
open Go.Proofs
def Zx_ref24_ends : Cx := ⟨tabOf Ztab, conOf [], ZG⟩
theorem Zx_ref24_ends_ok : CxOk Tryz.prog Zx_ref24_ends := ⟨tabB_sound Ztab_ok, fun f c h => by cases h⟩
theorem Zat_ref24_ends : FnAt Tryz.prog 40 Tryz.f40.ntmps Tryz.f40.results.toList (Tryz.f40.body.getD .skip) := ⟨Tryz.f40, Tryz.func40, rfl, rfl, by simp, by decide⟩
theorem Zeq_ref24_ends (a : List Int) (post : Int × Int × Unit → Prop) : fnEval Zx_ref24_ends Zhn_ref24_ends Tryz.f40.ntmps Tryz.f40.results.toList (Tryz.f40.body.getD .skip) [.slice (.int .u32)] [.snap (.int .u32), .snap (.int .u32)] (a, ()) post = Fx_ref24_ends  a post := by kernel_rfl
theorem Zh_ref24_ends : Zq_ref24_ends.holds Tryz.prog ZG 40 :=
  detP Zx_ref24_ends_ok Zmixed Zhn_ref24_ends Zat_ref24_ends (F := fun x post => Fx_ref24_ends  x.1 post) (fun x post => Zeq_ref24_ends x.1 post) fun x h w => Lx_ref24_ends  x.1 h w
end Go.Lift

/- Contracts of functions, of a seat. Own work. -/
set_option linter.unusedVariables false
set_option linter.unusedSimpArgs false
namespace Go.Lift
open Go.Proofs
def Zx_ref24_Tiles : Cx := ⟨tabOf Ztab, conOf [(36, Zq_ref20_Check), (39, Zq_ref08_Area), (38, Zq_ref11_Depth), (37, Zq_ref02_To32), (40, Zq_ref24_ends)], ZG⟩
theorem Zx_ref24_Tiles_ok : CxOk Tryz.prog Zx_ref24_Tiles := ⟨tabB_sound Ztab_ok, conOf_sound ⟨Zh_ref20_Check, Zh_ref08_Area, Zh_ref11_Depth, Zh_ref02_To32, Zh_ref24_ends, trivial⟩⟩
theorem Zat_ref24_Tiles : FnAt Tryz.prog 14 Tryz.f14.ntmps Tryz.f14.results.toList (Tryz.f14.body.getD .skip) := ⟨Tryz.f14, Tryz.func14, rfl, rfl, by simp, by decide⟩
theorem Zeq_ref24_Tiles (n : Int) (s : (List Nat) × (List Int) × (List Int) × (List Nat) × Int × Int) (post : (List (Int × Int × Int × List Int)) × Int × Unit → Prop) : fnEval Zx_ref24_Tiles Zhn_ref24_Tiles Tryz.f14.ntmps Tryz.f14.results.toList (Tryz.f14.body.getD .skip) [.int .i64, kSea] [.snap (.slice kTile), .snap (.int .i64)] (n, s, ()) post = Fx_ref24_Tiles 25 35 n s post := by kernel_rfl
theorem Zh_ref24_Tiles : Zq_ref24_Tiles.holds Tryz.prog ZG 14 :=
  detP Zx_ref24_Tiles_ok Zmixed Zhn_ref24_Tiles Zat_ref24_Tiles (F := fun x post => Fx_ref24_Tiles 25 35 x.1 x.2.1 post) (fun x post => Zeq_ref24_Tiles x.1 x.2.1 post) fun x h w => Lx_ref24_Tiles 25 35 x.1 x.2.1 h w
end Go.Lift

/- Contracts of functions, of a seat. Own work. -/
set_option linter.unusedVariables false
set_option linter.unusedSimpArgs false
namespace Go.Lift
open Go.Proofs
def Zx_law24_TileSeas : Cx := ⟨tabOf Ztab, conOf [(12, Zq_law24_awake), (13, Zq_tile_Tiles), (14, Zq_ref24_Tiles), (15, Zq_law24_same)], ZG⟩
theorem Zx_law24_TileSeas_ok : CxOk Tryz.prog Zx_law24_TileSeas := ⟨tabB_sound Ztab_ok, conOf_sound ⟨Zh_law24_awake, Zh_tile_Tiles, Zh_ref24_Tiles, Zh_law24_same, trivial⟩⟩
theorem Zat_law24_TileSeas : FnAt Tryz.prog 3 Tryz.f3.ntmps Tryz.f3.results.toList (Tryz.f3.body.getD .skip) := ⟨Tryz.f3, Tryz.func3, rfl, rfl, by simp, by decide⟩
theorem Zeq_law24_TileSeas (n : Int) (s : (List Nat) × (List Int) × (List Int) × (List Nat) × Int × Int) (post : Bool × Unit → Prop) : fnEval Zx_law24_TileSeas Zhn_law24_TileSeas Tryz.f3.ntmps Tryz.f3.results.toList (Tryz.f3.body.getD .skip) [.int .i64, kSea] [.snap .bool] (n, s, ()) post = Fx_law24_TileSeas 25 n s post := by kernel_rfl
theorem Zh_law24_TileSeas : Zq_law24_TileSeas.holds Tryz.prog ZG 3 :=
  detP Zx_law24_TileSeas_ok Zmixed Zhn_law24_TileSeas Zat_law24_TileSeas (F := fun x post => Fx_law24_TileSeas 25 x.1 x.2.1 post) (fun x post => Zeq_law24_TileSeas x.1 x.2.1 post) fun x h w => Lx_law24_TileSeas 25 x.1 x.2.1 h w
end Go.Lift

namespace Go.Proofs.YtomopcclgokehaaGreatDoor
open Go.Lift

theorem tileSeas_law : LawSpec Rows.tileSeasSpec 2 := ⟨rfl, fun H ds h => by
  match ds, h with
  | [d1, d2], _ => rfl⟩

set_option maxRecDepth 100000 in
theorem tileSeas_lifted (os : Os) (started : os.Started) (H : Type) (enc : TypeId × Value → H) :
    ReturnsInHanded {} Tryz.checked os 3 .any (fun w args => (Rows.tileSeasSpec.pre enc Tryz.prog Tryz.f3 [] false w args ∧ laidMetH Tryz.prog laidL w) ∧ sizedMet enc Tryz.prog Tryz.f3 (OpenSpec.ofChange Rows.tileSeasSpec) false w args) (Rows.tileSeasSpec.post enc Tryz.prog Tryz.f3 false true false false) :=
  law_laid (C := Tryz.checked) (X := fun w _ => laidMetH Tryz.prog laidL w) (fun _ _ _ hh h => h.of_heap hh) (fun w _ h => laid_globs w h) own started (by kernel_rfl) Tryz.func3 rfl (by decide)
    (ChangeSpec.witness_shaped (enc := enc) (C := Tryz.checked) (os := os) (X := fun w _ => laidMetH Tryz.prog laidL w) false (World.doorLaid Tryz.prog 400 os) #[.int .i64 0, .agg #[.slice none 0 0, .slice none 0 0, .slice none 0 0, .slice none 0 0, .int .i64 0, .int .i64 0]] 12 rfl (World.shaped_of_RefB (by kernel_rfl) (by kernel_rfl)) (by kernel_rfl) (by kernel_rfl) (by kernel_rfl) (door_met os _))
    laidOut (ktsB_sound _ [.int .i64, kSea] (by kernel_rfl)) (by decide +kernel) rfl (by kernel_rfl) tileSeas_law Zh_law24_TileSeas (fun x h w => ⟨rngI h.1, rngSe h.2.1⟩)

theorem tileSeas_holds : Rows.TileSeasSaid :=
  OpenClaim.holds_of_wide 3 Tryz.f3 rfl rfl rfl rfl rfl rfl rfl ⟨rfl, rfl, rfl, rfl, rfl⟩ rfl rfl rfl rfl rfl (by kernel_rfl) Tryz.func3 (by kernel_rfl)
    (of_decide_eq_true (by kernel_rfl)) (by unfold Func.isWrapper; first | (rw [if_pos (by decide +kernel)]; kernel_rfl) | (rw [if_neg (by decide +kernel)]; exact ⟨rfl, rfl⟩))
    (fun os started H enc _ => tileSeas_lifted os started H enc)

theorem tileSeas_card : Rows.TileSeasCardSaid :=
  Claim7.holds_tied_plain_at .later [] [.data] true (true, "2273f09aaa9b9b1a38ee314dd1dcc464b3e9af4b3fa99a5ece1fa69518c1ab6d") true
    tileSeas_holds (fun _ h => by cases h) (by kernel_rfl) (fun _ h => by cases h) tileSeas_row_tie rfl ⟨rfl, rfl⟩ (by kernel_rfl) rfl
    (fun f fn hf hfn => by
      obtain rfl : f = 3 := Option.some.inj ((show Tryz.prog.funcNamed "tarn/tarnlaw24.TileSeas" = some 3 by kernel_rfl).symm.trans hf) |>.symm
      obtain rfl : fn = Tryz.f3 := (Option.some.inj (Tryz.func3.symm.trans hfn)).symm
      exact ⟨by kernel_rfl, fun j t ht => by
        rw [Tryz.params3] at ht
        have hm : t ∈ [3, 25] := by simpa using Array.mem_of_getElem? ht
        have hall : ([3, 25].all fun u => !Tryz.prog.wantsStandIn u) = true := by kernel_rfl
        exact (show Tryz.prog.wantsStandIn t = false by simpa using List.all_eq_true.1 hall t hm)⟩)
    (by kernel_rfl)
end Go.Proofs.YtomopcclgokehaaGreatDoor
