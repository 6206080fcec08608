/- A part of the proof of TileSeasCard: an own lifter of code into plain terms, and plain laws. -/
import Derived.Test.YtomopcclgokehaaGreatDoorPtE
set_option linter.unusedVariables false
set_option linter.unusedSimpArgs false
set_option linter.unusedSectionVars false
/- Own work. -/
set_option linter.unusedVariables false
set_option linter.unusedSimpArgs false
namespace Go.Lift
def Fx_vec_canon := fun (a b c : Nat) (post : (Nat × Nat × Nat) × Unit → Prop) => ∃ (h : True), ∃ (h : True), ∃ (h : True), post (((canonR a).fst, (canonR b).fst, (canonR c).fst),
  ())
theorem Lx_vec_canon (a : Nat) (b : Nat) (c : Nat) : Fx_vec_canon  a b c (fun r => r = canonVR a b c) := by
  exact ⟨trivial, trivial, trivial, rfl⟩
def Fx_ref07_made := fun (a b c : Nat) (post : (Nat × Nat × Nat) × Unit → Prop) => ∃ (h : W64 a), ∃ (h : W64 b), ∃ (h : W64 c), post (((canonR a).fst, (canonR b).fst, (canonR
  c).fst), ())
theorem Lx_ref07_made (a : Nat) (b : Nat) (c : Nat) (h : W3 a b c) : Fx_ref07_made  a b c (fun r => r = canonVR a b c) := by
  obtain ⟨ha, hb, hc⟩ := h
  exact ⟨ha, hb, hc, rfl⟩
def Fx_vec_Minus := fun (a b : Nat × Nat × Nat) (post : (Nat × Nat × Nat) × Unit → Prop) => ∀ (a_1 : Nat), FRes Go.FloatKind.f64 (Go.FloatKind.f64.format.sub a.fst b.fst) a_1 → ∀
  (a_2 : Nat), FRes Go.FloatKind.f64 (Go.FloatKind.f64.format.sub a.snd.fst b.snd.fst) a_2 → ∀ (a_3 : Nat), FRes Go.FloatKind.f64 (Go.FloatKind.f64.format.sub a.snd.snd b.snd.snd)
  a_3 → ∃ (h : True), post (((canonVR a_1 a_2 a_3).fst.fst, (canonVR a_1 a_2 a_3).fst.snd.fst, (canonVR a_1 a_2 a_3).fst.snd.snd), ())
theorem Lx_vec_Minus (a : Nat × Nat × Nat) (b : Nat × Nat × Nat) (h : WV2 a b) : Fx_vec_Minus  a b (fun r => r = minusR a b) := by
  intro x hx y hy z hz
  exact ⟨trivial, congrArg r1 (canonV_congr (fsub hx).1 (fsub hy).1 (fsub hz).1)⟩
def Fx_ref07_Minus := fun (a b : Nat × Nat × Nat) (post : (Nat × Nat × Nat) × Unit → Prop) => ∀ (a_1 : Nat), FRes Go.FloatKind.f64 (Go.FloatKind.f64.format.sub a.fst b.fst) a_1 → ∀
  (a_2 : Nat), FRes Go.FloatKind.f64 (Go.FloatKind.f64.format.sub a.snd.fst b.snd.fst) a_2 → ∀ (a_3 : Nat), FRes Go.FloatKind.f64 (Go.FloatKind.f64.format.sub a.snd.snd b.snd.snd)
  a_3 → ∃ (h : W3 a_1 a_2 a_3), post (((canonVR a_1 a_2 a_3).fst.fst, (canonVR a_1 a_2 a_3).fst.snd.fst, (canonVR a_1 a_2 a_3).fst.snd.snd), ())
theorem Lx_ref07_Minus (a : Nat × Nat × Nat) (b : Nat × Nat × Nat) (h : WV2 a b) : Fx_ref07_Minus  a b (fun r => r = minusR a b) := by
  intro x hx y hy z hz
  exact ⟨⟨(fsub hx).2, (fsub hy).2, (fsub hz).2⟩, congrArg r1 (canonV_congr (fsub hx).1 (fsub hy).1 (fsub hz).1)⟩
def Fx_ref07_less := fun (a b c d : Nat) (post : Nat × Unit → Prop) => ∀ (a_1 : Nat), FRes Go.FloatKind.f64 (Go.FloatKind.f64.format.mul a b) a_1 → ∀ (a : Nat), FRes
  Go.FloatKind.f64 (Go.FloatKind.f64.format.mul c d) a → ∀ (a_2 : Nat), FRes Go.FloatKind.f64 (Go.FloatKind.f64.format.sub a_1 a) a_2 → post (a_2, ())
theorem Lx_ref07_less (a : Nat) (b : Nat) (c : Nat) (d : Nat) : Fx_ref07_less  a b c d (fun r => lessP a b c d r) := by
  intro x hx y hy z hz
  exact ⟨less_eq (fmul hx).1 (fmul hy).1 (fsub hz).1, (fsub hz).2⟩
def Fx_vec_Cross := fun (a b : Nat × Nat × Nat) (post : (Nat × Nat × Nat) × Unit → Prop) => ∀ (a_1 : Nat), FRes Go.FloatKind.f64 (Go.FloatKind.f64.format.mul a.snd.fst b.snd.snd)
  a_1 → ∀ (a_2 : Nat), FRes Go.FloatKind.f64 (Go.FloatKind.f64.format.mul a.snd.snd b.snd.fst) a_2 → ∀ (a_3 : Nat), FRes Go.FloatKind.f64 (Go.FloatKind.f64.format.sub a_1 a_2) a_3 →
  ∀ (a_4 : Nat), FRes Go.FloatKind.f64 (Go.FloatKind.f64.format.mul a.snd.snd b.fst) a_4 → ∀ (a_5 : Nat), FRes Go.FloatKind.f64 (Go.FloatKind.f64.format.mul a.fst b.snd.snd) a_5 → ∀
  (a_6 : Nat), FRes Go.FloatKind.f64 (Go.FloatKind.f64.format.sub a_4 a_5) a_6 → ∀ (a_7 : Nat), FRes Go.FloatKind.f64 (Go.FloatKind.f64.format.mul a.fst b.snd.fst) a_7 → ∀ (a_8 :
  Nat), FRes Go.FloatKind.f64 (Go.FloatKind.f64.format.mul a.snd.fst b.fst) a_8 → ∀ (a : Nat), FRes Go.FloatKind.f64 (Go.FloatKind.f64.format.sub a_7 a_8) a → ∃ (h : True), post
  (((canonVR a_3 a_6 a).fst.fst, (canonVR a_3 a_6 a).fst.snd.fst, (canonVR a_3 a_6 a).fst.snd.snd), ())
theorem Lx_vec_Cross (a : Nat × Nat × Nat) (b : Nat × Nat × Nat) : Fx_vec_Cross  a b (fun r => r = crossR a b) := by
  intro x1 h1 x2 h2 x3 h3 x4 h4 x5 h5 x6 h6 x7 h7 x8 h8 x9 h9
  exact ⟨trivial, congrArg r1 (canonV_congr (less_eq (fmul h1).1 (fmul h2).1 (fsub h3).1) (less_eq (fmul h4).1 (fmul h5).1 (fsub h6).1) (less_eq (fmul h7).1 (fmul h8).1 (fsub h9).1))⟩
def Fx_ref07_Cross := fun (a b : Nat × Nat × Nat) (post : (Nat × Nat × Nat) × Unit → Prop) => ∃ (h : True), ∀ (a_1 : Nat × Unit), lessP a.snd.fst b.snd.snd a.snd.snd b.snd.fst a_1 →
  ∃ (h : True), ∀ (a_2 : Nat × Unit), lessP a.snd.snd b.fst a.fst b.snd.snd a_2 → ∃ (h : True), ∀ (a_3 : Nat × Unit), lessP a.fst b.snd.fst a.snd.fst b.fst a_3 → ∃ (h : W3 a_1.fst
  a_2.fst a_3.fst), post (((canonVR a_1.fst a_2.fst a_3.fst).fst.fst, (canonVR a_1.fst a_2.fst a_3.fst).fst.snd.fst, (canonVR a_1.fst a_2.fst a_3.fst).fst.snd.snd), ())
theorem Lx_ref07_Cross (a : Nat × Nat × Nat) (b : Nat × Nat × Nat) : Fx_ref07_Cross  a b (fun r => r = crossR a b) := by
  exact ⟨trivial, fun x hx => ⟨trivial, fun y hy => ⟨trivial, fun z hz => ⟨⟨hx.2, hy.2, hz.2⟩, congrArg r1 (canonV_congr hx.1 hy.1 hz.1)⟩⟩⟩⟩
def Fx_math_Sqrt := fun (a : Nat) (post : Nat × Unit → Prop) => ∃ (h : True), ∀ (a_1 : Nat × Unit), sqrtP a a_1 → post (a_1.fst, ())
theorem Lx_math_Sqrt (a : Nat) : Fx_math_Sqrt  a (fun r => sqrtP a r) := by
  exact ⟨trivial, fun x hx => hx⟩
def Fx_raw_Sqrt := fun (a : Nat) (post : Nat × Unit → Prop) => ∃ (h : True), ∀ (a_1 : Nat × Unit), sqrtP a a_1 → post (a_1.fst, ())
theorem Lx_raw_Sqrt (a : Nat) : Fx_raw_Sqrt  a (fun r => sqrtP a r) := by
  exact ⟨trivial, fun x hx => hx⟩
def Fx_vec_Length := fun (a : Nat × Nat × Nat) (post : Nat × Unit → Prop) => ∀ (a_1 : Nat), FRes Go.FloatKind.f64 (Go.FloatKind.f64.format.mul a.fst a.fst) a_1 → ∀ (a_2 : Nat), FRes
  Go.FloatKind.f64 (Go.FloatKind.f64.format.mul a.snd.fst a.snd.fst) a_2 → ∀ (a_3 : Nat), FRes Go.FloatKind.f64 (Go.FloatKind.f64.format.mul a.snd.snd a.snd.snd) a_3 → ∃ (h : W3 a_1
  a_2 a_3), ∃ (h : True), ∀ (a : Nat × Unit), sqrtP (threeR a_1 a_2 a_3).fst a → ∃ (h : True), post ((canonR a.fst).fst, ())
theorem Lx_vec_Length (a : Nat × Nat × Nat) (h : WV a) : Fx_vec_Length  a (fun r => r = lengthR a) := by
  intro x hx y hy z hz
  exact ⟨⟨(fmul hx).2, (fmul hy).2, (fmul hz).2⟩, trivial, fun w hw => ⟨trivial, congrArg r1 (length_eq (fmul hx).1 (fmul hy).1 (fmul hz).1 hw.1)⟩⟩
def Fx_ref07_Length := fun (a : Nat × Nat × Nat) (post : Nat × Unit → Prop) => ∀ (a_1 : Nat), FRes Go.FloatKind.f64 (Go.FloatKind.f64.format.mul a.fst a.fst) a_1 → ∀ (a_2 : Nat),
  FRes Go.FloatKind.f64 (Go.FloatKind.f64.format.mul a.snd.fst a.snd.fst) a_2 → ∀ (a_3 : Nat), FRes Go.FloatKind.f64 (Go.FloatKind.f64.format.mul a.snd.snd a.snd.snd) a_3 → ∃ (h :
  W3 a_1 a_2 a_3), ∃ (h : True), ∀ (a : Nat × Unit), sqrtP (threeR a_1 a_2 a_3).fst a → ∃ (h : W64 a.fst), post ((canonR a.fst).fst, ())
theorem Lx_ref07_Length (a : Nat × Nat × Nat) (h : WV a) : Fx_ref07_Length  a (fun r => r = lengthR a) := by
  intro x hx y hy z hz
  exact ⟨⟨(fmul hx).2, (fmul hy).2, (fmul hz).2⟩, trivial, fun w hw => ⟨hw.2, congrArg r1 (length_eq (fmul hx).1 (fmul hy).1 (fmul hz).1 hw.1)⟩⟩
def Fx_vec_Gap := fun (a b : Nat × Nat × Nat) (post : Nat × Unit → Prop) => ∃ (h : WV2 (a.fst, a.snd.fst, a.snd.snd) (b.fst, b.snd.fst, b.snd.snd)), ∃ (h : WV (minusR (a.fst,
  a.snd.fst, a.snd.snd) (b.fst, b.snd.fst, b.snd.snd)).fst), post ((lengthR (minusR (a.fst, a.snd.fst, a.snd.snd) (b.fst, b.snd.fst, b.snd.snd)).fst).fst, ())
theorem Lx_vec_Gap (a : Nat × Nat × Nat) (b : Nat × Nat × Nat) (h : WV2 a b) : Fx_vec_Gap  a b (fun r => r = gapR a b) := by
  exact ⟨h, minusV_w _ _, rfl⟩
def Fx_vec_Unit := fun (a : Nat × Nat × Nat) (post : (Nat × Nat × Nat) × Unit → Prop) => ∃ (h : WV (a.fst, a.snd.fst, a.snd.snd)), ∀ (a_1 : Bool), a_1 = fcmp Go.BinOp.gtr
  (Go.FloatKind.f64.format.order (lengthR (a.fst, a.snd.fst, a.snd.snd)).fst (0 : Nat)) → Br (!a_1) (post (((0 : Nat), (0 : Nat), (0 : Nat)), ())) (∃ (h : WI (lengthR (a.fst,
  a.snd.fst, a.snd.snd)).fst (1 : Int)), ∀ (a_2 : Bool), a_2 = (infSR (lengthR (a.fst, a.snd.fst, a.snd.snd)).fst (1 : Int)).fst → Br a_2 (post (((0 : Nat), (0 : Nat), (0 : Nat)),
  ())) (∀ (a_3 : Nat), FRes Go.FloatKind.f64 (Go.FloatKind.f64.format.div a.fst (lengthR (a.fst, a.snd.fst, a.snd.snd)).fst) a_3 → ∀ (a_4 : Nat), FRes Go.FloatKind.f64
  (Go.FloatKind.f64.format.div a.snd.fst (lengthR (a.fst, a.snd.fst, a.snd.snd)).fst) a_4 → ∀ (a_5 : Nat), FRes Go.FloatKind.f64 (Go.FloatKind.f64.format.div a.snd.snd (lengthR
  (a.fst, a.snd.fst, a.snd.snd)).fst) a_5 → ∃ (h : True), post (((canonVR a_3 a_4 a_5).fst.fst, (canonVR a_3 a_4 a_5).fst.snd.fst, (canonVR a_3 a_4 a_5).fst.snd.snd), ())))
theorem Lx_vec_Unit (a : Nat × Nat × Nat) (h : WV a) : Fx_vec_Unit  a (fun r => r = unitR a) := by
  refine ⟨h, ?_⟩
  have hs := lengthQ_sgn a
  have hg := gt_zero hs
  rintro _ rfl
  refine Br.intro (fun e => ?_) fun e => ⟨lengthQ_w a, ?_⟩
  · have e : (!fcmp .gtr (Ieee.double.order (lengthQ a) 0)) = true := e
    rw [hg] at e
    refine (congrArg r1 (unit_zero ?_)).symm
    rw [class12]
    rintro ⟨h1, h2⟩
    have : isN (lengthQ a) = false := by unfold isN; simp; omega
    rw [this] at e
    simp [h1] at e
  · have e : (!fcmp .gtr (Ieee.double.order (lengthQ a) 0)) = false := e
    rw [hg] at e
    have e : isN (lengthQ a) = false ∧ rungOf (lengthQ a) ≠ 0 := by simpa using e
    have hi : infS (lengthQ a) 1 = decide (rungOf (lengthQ a) = infR) := by unfold infS; rw [if_neg (by decide), if_neg (by decide), hs]; simp
    rintro _ rfl
    refine Br.intro (fun f => ?_) fun f => ?_
    · have f : infS (lengthQ a) 1 = true := f
      rw [hi] at f
      have f := of_decide_eq_true f
      exact (congrArg r1 (unit_zero (by rw [class12]; rintro ⟨h1, h2⟩; omega))).symm
    · have f : infS (lengthQ a) 1 = false := f
      rw [hi] at f
      have f := of_decide_eq_false f
      have g : rungOf (lengthQ a) ≤ infR := by have := e.1; unfold isN at this; simpa using this
      intro x hx y hy z hz
      exact ⟨trivial, congrArg r1 (unit_some ((class12 _).2 ⟨e.2, by omega⟩) (fdiv hx).1 (fdiv hy).1 (fdiv hz).1)⟩
def Fx_ref07_Unit := fun (a : Nat × Nat × Nat) (post : (Nat × Nat × Nat) × Unit → Prop) => ∃ (h : WV (a.fst, a.snd.fst, a.snd.snd)), ∃ (h : W64 (lengthR (a.fst, a.snd.fst,
  a.snd.snd)).fst), ∀ (a_1 : Bool), a_1 = ((classR (lengthR (a.fst, a.snd.fst, a.snd.snd)).fst).fst == (0 : Int)) → Br a_1 (∃ (h : W3 (0 : Nat) (0 : Nat) (0 : Nat)), post (((canonVR
  (0 : Nat) (0 : Nat) (0 : Nat)).fst.fst, (canonVR (0 : Nat) (0 : Nat) (0 : Nat)).fst.snd.fst, (canonVR (0 : Nat) (0 : Nat) (0 : Nat)).fst.snd.snd), ())) (∀ (a_2 : Bool), a_2 =
  ((classR (lengthR (a.fst, a.snd.fst, a.snd.snd)).fst).fst == (3 : Int)) → Br a_2 (∃ (h : W3 (0 : Nat) (0 : Nat) (0 : Nat)), post (((canonVR (0 : Nat) (0 : Nat) (0 : Nat)).fst.fst,
  (canonVR (0 : Nat) (0 : Nat) (0 : Nat)).fst.snd.fst, (canonVR (0 : Nat) (0 : Nat) (0 : Nat)).fst.snd.snd), ())) (∀ (a_3 : Bool), a_3 = ((classR (lengthR (a.fst, a.snd.fst,
  a.snd.snd)).fst).fst == (4 : Int)) → Br a_3 (∃ (h : W3 (0 : Nat) (0 : Nat) (0 : Nat)), post (((canonVR (0 : Nat) (0 : Nat) (0 : Nat)).fst.fst, (canonVR (0 : Nat) (0 : Nat) (0 :
  Nat)).fst.snd.fst, (canonVR (0 : Nat) (0 : Nat) (0 : Nat)).fst.snd.snd), ())) (∀ (a_4 : Nat), FRes Go.FloatKind.f64 (Go.FloatKind.f64.format.div a.fst (lengthR (a.fst, a.snd.fst,
  a.snd.snd)).fst) a_4 → ∀ (a_5 : Nat), FRes Go.FloatKind.f64 (Go.FloatKind.f64.format.div a.snd.fst (lengthR (a.fst, a.snd.fst, a.snd.snd)).fst) a_5 → ∀ (a_6 : Nat), FRes
  Go.FloatKind.f64 (Go.FloatKind.f64.format.div a.snd.snd (lengthR (a.fst, a.snd.fst, a.snd.snd)).fst) a_6 → ∃ (h : W3 a_4 a_5 a_6), post (((canonVR a_4 a_5 a_6).fst.fst, (canonVR
  a_4 a_5 a_6).fst.snd.fst, (canonVR a_4 a_5 a_6).fst.snd.snd), ()))))
theorem Lx_ref07_Unit (a : Nat × Nat × Nat) (h : WV a) : Fx_ref07_Unit  a (fun r => r = unitR a) := by
  refine ⟨h, lengthQ_w a, ?_⟩
  have z : canonV 0 0 0 = (0, 0, 0) := by decide
  have w0 : W64 0 := by unfold W64; decide
  have out : ∀ k : Int, k ≠ 1 → k ≠ 2 → (classF (lengthQ a) == k) = true → ∃ h : W3 0 0 0, (((canonVR 0 0 0).fst.fst, (canonVR 0 0 0).fst.snd.fst, (canonVR 0 0 0).fst.snd.snd), ()) = unitR a := by
    intro k k1 k2 e
    have e : classF (lengthQ a) = k := by simpa using e
    exact ⟨⟨w0, w0, w0⟩, congrArg r1 (z.trans (unit_zero (by rw [e]; omega)).symm)⟩
  rintro _ rfl
  refine Br.intro (fun e => out 0 (by decide) (by decide) e) fun e => ?_
  have e : (classF (lengthQ a) == 0) = false := e
  rintro _ rfl
  refine Br.intro (fun f => out 3 (by decide) (by decide) f) fun f => ?_
  have f : (classF (lengthQ a) == 3) = false := f
  rintro _ rfl
  refine Br.intro (fun g => out 4 (by decide) (by decide) g) fun g => ?_
  have g : (classF (lengthQ a) == 4) = false := g
  have c : classF (lengthQ a) = 1 ∨ classF (lengthQ a) = 2 := by
    have e : classF (lengthQ a) ≠ 0 := by simpa using e
    have f : classF (lengthQ a) ≠ 3 := by simpa using f
    have g : classF (lengthQ a) ≠ 4 := by simpa using g
    have := class_le (lengthQ a)
    omega
  intro x hx y hy z hz
  exact ⟨⟨(fdiv hx).2, (fdiv hy).2, (fdiv hz).2⟩, congrArg r1 (unit_some c (fdiv hx).1 (fdiv hy).1 (fdiv hz).1)⟩
end Go.Lift

/- Own work. -/
set_option linter.unusedVariables false
set_option linter.unusedSimpArgs false
namespace Go.Lift
def Fx_sum_row := fun (a : List Nat) (post : Nat × Unit → Prop) => ∀ (a_1 : Bool), a_1 = ((↑a.length : Int) == (0 : Int)) → Br a_1 (post ((0 : Nat), ())) (∃ (h : (0 : Int) ≤ (0 :
  Int) ∧ (0 : Int) < (↑a.length : Int)), ∃ (h : (0 : Int) ≤ (1 : Int) ∧ (1 : Int) ≤ (↑a.length : Int) ∧ (↑a.length : Int) ≤ (↑a.length : Int)), HIs [] [] ∧ ∃ (I : Nat × Int × Unit →
  Unit → Prop), ∃ (μ : Nat × Int × Unit → Unit → Nat), I (a.getD (Int.toNat (0 : Int)) (0 : Nat), (0 : Int), ()) () ∧ ∀ (x : Nat × Int × Unit) (y : Unit), I x y → ∀ (a_2 : Bool),
  a_2 = decide (x.snd.fst < (↑(List.take ((↑a.length : Int) - (1 : Int)).toNat (List.drop (Int.toNat (1 : Int)) a)).length : Int)) → Br a_2 (∃ (h : (0 : Int) ≤ x.snd.fst ∧ x.snd.fst
  < (↑(List.take ((↑a.length : Int) - (1 : Int)).toNat (List.drop (Int.toNat (1 : Int)) a)).length : Int)), ∀ (a_3 : Nat), FRes Go.FloatKind.f64 (Go.FloatKind.f64.format.add x.fst
  ((List.take ((↑a.length : Int) - (1 : Int)).toNat (List.drop (Int.toNat (1 : Int)) a)).getD x.snd.fst.toNat (0 : Nat))) a_3 → HIs [] [] ∧ I (a_3, IntKind.i64.wrap (x.snd.fst + (1
  : Int)), ()) () ∧ μ (a_3, IntKind.i64.wrap (x.snd.fst + (1 : Int)), ()) () < μ x y) (∃ (h : True), post ((quietR x.fst).fst, ())))
theorem Lx_sum_row (a : List Nat) (h : WL a) (w : KS.wf [.slice (.flt .f64)] (a, ())) : Fx_sum_row  a (fun r => r = rowR a) := by
  have hl : a.length ≤ maxN := w.1.1
  unfold maxN at hl
  rintro _ rfl
  refine Br.intro (fun e => ?_) fun e => ?_
  · have e : a.length = 0 := by have := eq_of_beq e; omega
    have : a = [] := List.eq_nil_of_length_eq_zero e
    subst this; rfl
  · have e : 0 < a.length := by
      rcases Nat.eq_zero_or_pos a.length with z | z
      · rw [z] at e; cases e
      · exact z
    refine ⟨⟨by omega, by omega⟩, ⟨by omega, by omega, by omega⟩, rfl, fun x _ => ∃ i : Nat, x.2.1 = i ∧ i + 1 ≤ a.length ∧ W64 x.1 ∧ quietF x.1 = rowQ (a.take (i + 1)), fun x _ => a.length - x.2.1.toNat, ⟨0, rfl, by omega, WL_getD h 0, (rowQ_one e).symm⟩, ?_⟩
    have ht : List.take ((a.length : Int) - 1).toNat (List.drop (Int.toNat 1) a) = a.drop 1 := by
      show List.take ((a.length : Int) - 1).toNat (List.drop 1 a) = a.drop 1
      apply List.take_of_length_le; rw [List.length_drop]; omega
    rw [ht]
    have hd : ∀ i, (a.drop 1).getD i 0 = a.getD (i + 1) 0 := by
      intro i; rw [List.getD_eq_getElem?_getD, List.getD_eq_getElem?_getD, List.getElem?_drop, Nat.add_comm]
    rintro ⟨acc, _, ⟨⟩⟩ _ ⟨i, hi, hil, hw, hq⟩
    dsimp only at hi hw hq
    subst hi
    dsimp only
    rintro _ rfl
    refine Br.intro (fun f => ?_) fun f => ?_
    · have f : i + 1 < a.length := by have := of_decide_eq_true f; rw [List.length_drop] at this; omega
      refine ⟨⟨by omega, by rw [List.length_drop]; omega⟩, fun r hr => ?_⟩
      rw [Int.toNat_natCast, hd] at hr
      obtain ⟨q1, q2⟩ := fadd hr
      refine ⟨rfl, ⟨i + 1, ?_, by omega, q2, ?_⟩, ?_⟩
      · rw [wi ⟨by omega, by omega⟩]; omega
      · show quietF r = _
        rw [q1, rowQ_at f (by omega), addQ_congr (x' := rowQ (a.take (i + 1))) (by rw [hq, rowQ_q]) rfl]
      · rw [wi ⟨by omega, by omega⟩]; omega
    · have f : a.length ≤ i + 1 := by have := of_decide_eq_false f; rw [List.length_drop] at this; omega
      refine ⟨trivial, congrArg r1 ?_⟩
      show quietF acc = _
      rw [hq, List.take_of_length_le f]
def Fx_ref05_Three := fun (a b c : Nat) (post : Nat × Unit → Prop) => ∃ (h : W2 b a), ∀ (a_1 : Bool), a_1 = (aheadR b a).fst → Br a_1 (∃ (h : W2 c a), ∀ (a_2 : Bool), a_2 = (aheadR
  c a).fst → Br a_2 (∃ (h : W2 c b), ∀ (a_3 : Bool), a_3 = (aheadR c b).fst → Br a_3 (∀ (a_4 : Nat), FRes Go.FloatKind.f64 (Go.FloatKind.f64.format.add c b) a_4 → ∀ (a_5 : Nat),
  FRes Go.FloatKind.f64 (Go.FloatKind.f64.format.add a_4 a) a_5 → ∃ (h : W64 a_5), post ((quietR a_5).fst, ())) (∀ (a_4 : Nat), FRes Go.FloatKind.f64 (Go.FloatKind.f64.format.add b
  c) a_4 → ∀ (a_5 : Nat), FRes Go.FloatKind.f64 (Go.FloatKind.f64.format.add a_4 a) a_5 → ∃ (h : W64 a_5), post ((quietR a_5).fst, ()))) (∃ (h : W2 a b), ∀ (a_3 : Bool), a_3 =
  (aheadR a b).fst → Br a_3 (∀ (a_4 : Nat), FRes Go.FloatKind.f64 (Go.FloatKind.f64.format.add a b) a_4 → ∀ (a : Nat), FRes Go.FloatKind.f64 (Go.FloatKind.f64.format.add a_4 c) a →
  ∃ (h : W64 a), post ((quietR a).fst, ())) (∀ (a_4 : Nat), FRes Go.FloatKind.f64 (Go.FloatKind.f64.format.add b a) a_4 → ∀ (a : Nat), FRes Go.FloatKind.f64
  (Go.FloatKind.f64.format.add a_4 c) a → ∃ (h : W64 a), post ((quietR a).fst, ())))) (∃ (h : W2 c b), ∀ (a_2 : Bool), a_2 = (aheadR c b).fst → Br a_2 (∃ (h : W2 c a), ∀ (a_3 :
  Bool), a_3 = (aheadR c a).fst → Br a_3 (∀ (a_4 : Nat), FRes Go.FloatKind.f64 (Go.FloatKind.f64.format.add c a) a_4 → ∀ (a : Nat), FRes Go.FloatKind.f64
  (Go.FloatKind.f64.format.add a_4 b) a → ∃ (h : W64 a), post ((quietR a).fst, ())) (∀ (a_4 : Nat), FRes Go.FloatKind.f64 (Go.FloatKind.f64.format.add a c) a_4 → ∀ (a : Nat), FRes
  Go.FloatKind.f64 (Go.FloatKind.f64.format.add a_4 b) a → ∃ (h : W64 a), post ((quietR a).fst, ()))) (∃ (h : W2 b a), ∀ (a_3 : Bool), a_3 = (aheadR b a).fst → Br a_3 (∀ (a_4 :
  Nat), FRes Go.FloatKind.f64 (Go.FloatKind.f64.format.add b a) a_4 → ∀ (a : Nat), FRes Go.FloatKind.f64 (Go.FloatKind.f64.format.add a_4 c) a → ∃ (h : W64 a), post ((quietR a).fst,
  ())) (∀ (a_4 : Nat), FRes Go.FloatKind.f64 (Go.FloatKind.f64.format.add a b) a_4 → ∀ (a : Nat), FRes Go.FloatKind.f64 (Go.FloatKind.f64.format.add a_4 c) a → ∃ (h : W64 a), post
  ((quietR a).fst, ()))))
theorem Lx_ref05_Three (a : Nat) (b : Nat) (c : Nat) (h : W3 a b c) : Fx_ref05_Three  a b c (fun r => r = threeR a b c) := by
  obtain ⟨ha, hb, hc⟩ := h
  have leaf : ∀ x y z, sort3 a b c = [x, y, z] → ∀ s, FRes Go.FloatKind.f64 (Go.FloatKind.f64.format.add x y) s → ∀ t, FRes Go.FloatKind.f64 (Go.FloatKind.f64.format.add s z) t → ∃ h : W64 t, ((quietR t).fst, ()) = threeR a b c := by
    intro x y z e s hs t ht
    obtain ⟨q1, w1⟩ := fadd hs
    obtain ⟨q2, w2⟩ := fadd ht
    refine ⟨w2, congrArg r1 ?_⟩
    show quietF t = rowQ (sort3 a b c)
    rw [e]; exact rowQ3 q1 q2
  refine ⟨⟨hb, ha⟩, ?_⟩
  rintro _ rfl
  refine Br.intro (fun e => ⟨⟨hc, ha⟩, ?_⟩) fun e => ⟨⟨hc, hb⟩, ?_⟩
  · have e : ltM b a = true := e
    rintro _ rfl
    refine Br.intro (fun f => ⟨⟨hc, hb⟩, ?_⟩) fun f => ⟨⟨ha, hb⟩, ?_⟩
    · have f : ltM c a = true := f
      rintro _ rfl
      refine Br.intro (fun g => ?_) fun g => ?_
      · have g : ltM c b = true := g
        exact leaf _ _ _ (by unfold sort3; rw [e, f, g]; rfl)
      · have g : ltM c b = false := g
        exact leaf _ _ _ (by unfold sort3; rw [e, f, g]; rfl)
    · have f : ltM c a = false := f
      rintro _ rfl
      refine Br.intro (fun g => ?_) fun g => ?_
      · have g : ltM a b = true := g
        rw [ltM_asymm e] at g; cases g
      · exact leaf _ _ _ (by unfold sort3; rw [e, f]; rfl)
  · have e : ltM b a = false := e
    rintro _ rfl
    refine Br.intro (fun f => ⟨⟨hc, ha⟩, ?_⟩) fun f => ⟨⟨hb, ha⟩, ?_⟩
    · have f : ltM c b = true := f
      rintro _ rfl
      refine Br.intro (fun g => ?_) fun g => ?_
      · have g : ltM c a = true := g
        exact leaf _ _ _ (by unfold sort3; rw [e, f, g]; rfl)
      · have g : ltM c a = false := g
        exact leaf _ _ _ (by unfold sort3; rw [e, f, g]; rfl)
    · have f : ltM c b = false := f
      rintro _ rfl
      refine Br.intro (fun g => ?_) fun g => ?_
      · have g : ltM b a = true := g
        rw [e] at g; cases g
      · exact leaf _ _ _ (by unfold sort3; rw [e, f]; rfl)
def Fx_sum_Three := fun (a b c : Nat) (post : Nat × Unit → Prop) => ∃ (h : (List.replicate (3 : Nat) (0 : Nat)).length = (3 : Nat) ∧ (3 : Nat) = (3 : Nat)), ∃ (h : (0 : Int) ≤ (0 :
  Int) ∧ (0 : Int) ≤ (3 : Int) ∧ (3 : Int) ≤ (3 : Int) ∧ (3 : Nat) = (3 : Nat)), ∃ (h : IsThree (3 : Int)), ∃ (h : (0 : Int) ≤ (1 : Int) ∧ (1 : Int) < (3 : Int)), ∃ (h : (0 : Int) ≤
  (0 : Int) ∧ (0 : Int) < (3 : Int)), ∃ (h : W2 b a), Br (decide ((cmpMR b a).fst < (0 : Int))) (∃ (h : (0 : Int) ≤ (0 : Int) ∧ (0 : Int) < (3 : Int)), ∃ (h : (0 : Int) ≤ (1 : Int)
  ∧ (1 : Int) < (3 : Int)), ∃ (h : (0 : Int) ≤ (1 : Int) ∧ (1 : Int) < (3 : Int)), ∃ (h : (0 : Int) ≤ (0 : Int) ∧ (0 : Int) < (3 : Int)), ∃ (h : (0 : Int) ≤ (2 : Int) ∧ (2 : Int) <
  (3 : Int)), ∃ (h : (0 : Int) ≤ (1 : Int) ∧ (1 : Int) < (3 : Int)), ∃ (h : W2 c a), Br (decide ((cmpMR c a).fst < (0 : Int))) (∃ (h : (0 : Int) ≤ (1 : Int) ∧ (1 : Int) < (3 :
  Int)), ∃ (h : (0 : Int) ≤ (2 : Int) ∧ (2 : Int) < (3 : Int)), ∃ (h : (0 : Int) ≤ (2 : Int) ∧ (2 : Int) < (3 : Int)), ∃ (h : (0 : Int) ≤ (1 : Int) ∧ (1 : Int) < (3 : Int)), ∃ (h :
  (0 : Int) ≤ (1 : Int) ∧ (1 : Int) < (3 : Int)), ∃ (h : (0 : Int) ≤ (0 : Int) ∧ (0 : Int) < (3 : Int)), ∃ (h : W2 c b), Br (decide ((cmpMR c b).fst < (0 : Int))) (∃ (h : (0 : Int)
  ≤ (0 : Int) ∧ (0 : Int) < (3 : Int)), ∃ (h : (0 : Int) ≤ (1 : Int) ∧ (1 : Int) < (3 : Int)), ∃ (h : (0 : Int) ≤ (1 : Int) ∧ (1 : Int) < (3 : Int)), ∃ (h : (0 : Int) ≤ (0 : Int) ∧
  (0 : Int) < (3 : Int)), ∃ (h : (0 : Int) ≤ (0 : Int) ∧ (0 : Int) ≤ (3 : Int) ∧ (3 : Int) ≤ (3 : Int) ∧ (3 : Nat) = [c, b, a].length), ∃ (h : WL [c, b, a]), post ((rowR [c, b,
  a]).fst, ())) (∃ (h : (0 : Int) ≤ (0 : Int) ∧ (0 : Int) ≤ (3 : Int) ∧ (3 : Int) ≤ (3 : Int) ∧ (3 : Nat) = [b, c, a].length), ∃ (h : WL [b, c, a]), post ((rowR [b, c, a]).fst,
  ()))) (∃ (h : (0 : Int) ≤ (0 : Int) ∧ (0 : Int) ≤ (3 : Int) ∧ (3 : Int) ≤ (3 : Int) ∧ (3 : Nat) = [b, a, c].length), ∃ (h : WL [b, a, c]), post ((rowR [b, a, c]).fst, ()))) (∃ (h
  : (0 : Int) ≤ (2 : Int) ∧ (2 : Int) < (3 : Int)), ∃ (h : (0 : Int) ≤ (1 : Int) ∧ (1 : Int) < (3 : Int)), ∃ (h : W2 c b), Br (decide ((cmpMR c b).fst < (0 : Int))) (∃ (h : (0 :
  Int) ≤ (1 : Int) ∧ (1 : Int) < (3 : Int)), ∃ (h : (0 : Int) ≤ (2 : Int) ∧ (2 : Int) < (3 : Int)), ∃ (h : (0 : Int) ≤ (2 : Int) ∧ (2 : Int) < (3 : Int)), ∃ (h : (0 : Int) ≤ (1 :
  Int) ∧ (1 : Int) < (3 : Int)), ∃ (h : (0 : Int) ≤ (1 : Int) ∧ (1 : Int) < (3 : Int)), ∃ (h : (0 : Int) ≤ (0 : Int) ∧ (0 : Int) < (3 : Int)), ∃ (h : W2 c a), Br (decide ((cmpMR c
  a).fst < (0 : Int))) (∃ (h : (0 : Int) ≤ (0 : Int) ∧ (0 : Int) < (3 : Int)), ∃ (h : (0 : Int) ≤ (1 : Int) ∧ (1 : Int) < (3 : Int)), ∃ (h : (0 : Int) ≤ (1 : Int) ∧ (1 : Int) < (3 :
  Int)), ∃ (h : (0 : Int) ≤ (0 : Int) ∧ (0 : Int) < (3 : Int)), ∃ (h : (0 : Int) ≤ (0 : Int) ∧ (0 : Int) ≤ (3 : Int) ∧ (3 : Int) ≤ (3 : Int) ∧ (3 : Nat) = [c, a, b].length), ∃ (h :
  WL [c, a, b]), post ((rowR [c, a, b]).fst, ())) (∃ (h : (0 : Int) ≤ (0 : Int) ∧ (0 : Int) ≤ (3 : Int) ∧ (3 : Int) ≤ (3 : Int) ∧ (3 : Nat) = [a, c, b].length), ∃ (h : WL [a, c,
  b]), post ((rowR [a, c, b]).fst, ()))) (∃ (h : (0 : Int) ≤ (0 : Int) ∧ (0 : Int) ≤ (3 : Int) ∧ (3 : Int) ≤ (3 : Int) ∧ (3 : Nat) = (3 : Nat)), ∃ (h : WL [a, b, c]), post ((rowR
  [a, b, c]).fst, ())))
theorem Lx_sum_Three (a : Nat) (b : Nat) (c : Nat) (h : W3 a b c) : Fx_sum_Three  a b c (fun r => r = threeR a b c) := by
  obtain ⟨ha, hb, hc⟩ := h
  have leaf : ∀ l, sort3 a b c = l → ((rowR l).fst, ()) = threeR a b c := by rintro _ rfl; rfl
  refine ⟨⟨rfl, rfl⟩, ⟨by decide, by decide, by decide, rfl⟩, rfl, by decide, by decide, ⟨hb, ha⟩, Br.intro (fun e => ⟨by decide, by decide, by decide, by decide, by decide, by decide, ⟨hc, ha⟩, Br.intro (fun f => ⟨by decide, by decide, by decide, by decide, by decide, by decide, ⟨hc, hb⟩, Br.intro (fun g => ⟨by decide, by decide, by decide, by decide, ⟨by decide, by decide, by decide, rfl⟩, WL3 hc hb ha, leaf _ ?_⟩) fun g => ⟨⟨by decide, by decide, by decide, rfl⟩, WL3 hb hc ha, leaf _ ?_⟩⟩) fun f => ⟨⟨by decide, by decide, by decide, rfl⟩, WL3 hb ha hc, leaf _ ?_⟩⟩) fun e => ⟨by decide, by decide, ⟨hc, hb⟩, Br.intro (fun f => ⟨by decide, by decide, by decide, by decide, by decide, by decide, ⟨hc, ha⟩, Br.intro (fun g => ⟨by decide, by decide, by decide, by decide, ⟨by decide, by decide, by decide, rfl⟩, WL3 hc ha hb, leaf _ ?_⟩) fun g => ⟨⟨by decide, by decide, by decide, rfl⟩, WL3 ha hc hb, leaf _ ?_⟩⟩) fun f => ⟨⟨by decide, by decide, by decide, rfl⟩, WL3 ha hb hc, leaf _ ?_⟩⟩⟩
  · have e : ltM b a = true := e
    have f : ltM c a = true := f
    have g : ltM c b = true := g
    unfold sort3; rw [e, f, g]; rfl
  · have e : ltM b a = true := e
    have f : ltM c a = true := f
    have g : ltM c b = false := g
    unfold sort3; rw [e, f, g]; rfl
  · have e : ltM b a = true := e
    have f : ltM c a = false := f
    unfold sort3; rw [e, f]; rfl
  · have e : ltM b a = false := e
    have f : ltM c b = true := f
    have g : ltM c a = true := g
    unfold sort3; rw [e, f, g]; rfl
  · have e : ltM b a = false := e
    have f : ltM c b = true := f
    have g : ltM c a = false := g
    unfold sort3; rw [e, f, g]; rfl
  · have e : ltM b a = false := e
    have f : ltM c b = false := f
    unfold sort3; rw [e, f]; rfl
end Go.Lift

/- Contracts of functions, of a seat. Own work. -/
set_option linter.unusedVariables false
set_option linter.unusedSimpArgs false
namespace Go.Lift
open Go.Proofs
def Zx_sum_row : Cx := ⟨tabOf Ztab, conOf [(158, Zq_sum_quiet)], ZG⟩
theorem Zx_sum_row_ok : CxOk Tryz.prog Zx_sum_row := ⟨tabB_sound Ztab_ok, conOf_sound ⟨Zh_sum_quiet, trivial⟩⟩
theorem Zat_sum_row : FnAt Tryz.prog 142 Tryz.f142.ntmps Tryz.f142.results.toList (Tryz.f142.body.getD .skip) := ⟨Tryz.f142, Tryz.func142, rfl, rfl, by simp, by decide⟩
theorem Zeq_sum_row (a : List Nat) (post : Nat × Unit → Prop) : fnEval Zx_sum_row Zhn_sum_row Tryz.f142.ntmps Tryz.f142.results.toList (Tryz.f142.body.getD .skip) [.slice (.flt .f64)] [.snap (.flt .f64)] (a, ()) post = Fx_sum_row  a post := by kernel_rfl
theorem Zh_sum_row : Zq_sum_row.holds Tryz.prog ZG 142 :=
  detP Zx_sum_row_ok Zmixed Zhn_sum_row Zat_sum_row (F := fun x post => Fx_sum_row  x.1 post) (fun x post => Zeq_sum_row x.1 post) fun x h w => Lx_sum_row  x.1 h w
def Zx_ref05_Three : Cx := ⟨tabOf Ztab, conOf [(150, Zq_ref05_ahead), (151, Zq_ref05_quieted)], ZG⟩
theorem Zx_ref05_Three_ok : CxOk Tryz.prog Zx_ref05_Three := ⟨tabB_sound Ztab_ok, conOf_sound ⟨Zh_ref05_ahead, Zh_ref05_quieted, trivial⟩⟩
theorem Zat_ref05_Three : FnAt Tryz.prog 118 Tryz.f118.ntmps Tryz.f118.results.toList (Tryz.f118.body.getD .skip) := ⟨Tryz.f118, Tryz.func118, rfl, rfl, by simp, by decide⟩
theorem Zeq_ref05_Three (a : Nat) (b : Nat) (c : Nat) (post : Nat × Unit → Prop) : fnEval Zx_ref05_Three nHn Tryz.f118.ntmps Tryz.f118.results.toList (Tryz.f118.body.getD .skip) [.flt .f64, .flt .f64, .flt .f64] [.snap (.flt .f64)] (a, b, c, ()) post = Fx_ref05_Three  a b c post := by kernel_rfl
theorem Zh_ref05_Three : Zq_ref05_Three.holds Tryz.prog ZG 118 :=
  detP Zx_ref05_Three_ok Zmixed nHn Zat_ref05_Three (F := fun x post => Fx_ref05_Three  x.1 x.2.1 x.2.2.1 post) (fun x post => Zeq_ref05_Three x.1 x.2.1 x.2.2.1 post) fun x h _ => Lx_ref05_Three  x.1 x.2.1 x.2.2.1 h
def Zx_mbits_Len64 : Cx := ⟨tabOf Ztab, fun _ => none, ZG⟩
theorem Zx_mbits_Len64_ok : CxOk Tryz.prog Zx_mbits_Len64 := ⟨tabB_sound Ztab_ok, fun f c h => by cases h⟩
theorem Zat_mbits_Len64 : FnAt Tryz.prog 175 Tryz.f175.ntmps Tryz.f175.results.toList (Tryz.f175.body.getD .skip) := ⟨Tryz.f175, Tryz.func175, rfl, rfl, by simp, by decide⟩
theorem Zeq_mbits_Len64 (post : Int × Unit → Prop) : fnEval Zx_mbits_Len64 noHn Tryz.f175.ntmps Tryz.f175.results.toList (Tryz.f175.body.getD .skip) [.int .u64] [.snap (.int .i64)] ((3 : Int), ()) post = (∃ (h : (0 : Int) ≤ (3 : Int) ∧ (3 : Int) < (256 : Int)), post ((2 : Int), ())) := by kernel_rfl
theorem Zh_mbits_Len64 : Zq_mbits_Len64.holds Tryz.prog ZG 175 := by
  refine det_holds Zx_mbits_Len64_ok Zmixed noHn Zat_mbits_Len64 ?_
  rintro ⟨a, ⟨⟩⟩ h
  have h : a = (3 : Int) := h
  subst h
  exact (Zeq_mbits_Len64 _).mpr ⟨by decide, rfl⟩
def Zx_mbits_Len : Cx := ⟨tabOf Ztab, conOf [(175, Zq_mbits_Len64)], ZG⟩
theorem Zx_mbits_Len_ok : CxOk Tryz.prog Zx_mbits_Len := ⟨tabB_sound Ztab_ok, conOf_sound ⟨Zh_mbits_Len64, trivial⟩⟩
theorem Zat_mbits_Len : FnAt Tryz.prog 155 Tryz.f155.ntmps Tryz.f155.results.toList (Tryz.f155.body.getD .skip) := ⟨Tryz.f155, Tryz.func155, rfl, rfl, by simp, by decide⟩
theorem Zeq_mbits_Len (post : Int × Unit → Prop) : fnEval Zx_mbits_Len noHn Tryz.f155.ntmps Tryz.f155.results.toList (Tryz.f155.body.getD .skip) [.int .u64] [.snap (.int .i64)] ((3 : Int), ()) post = (∃ (h : IsThree 3), post ((2 : Int), ())) := by kernel_rfl
theorem Zh_mbits_Len : Zq_mbits_Len.holds Tryz.prog ZG 155 := by
  refine det_holds Zx_mbits_Len_ok Zmixed noHn Zat_mbits_Len ?_
  rintro ⟨a, ⟨⟩⟩ h
  have h : a = (3 : Int) := h
  subst h
  exact (Zeq_mbits_Len _).mpr ⟨rfl, rfl⟩
def Zx_sum_Three : Cx := ⟨tabOf Ztab, conOf [(137, Zq_sum_Three_c1), (142, Zq_sum_row), (155, Zq_mbits_Len)], ZG⟩
theorem Zx_sum_Three_ok : CxOk Tryz.prog Zx_sum_Three := ⟨tabB_sound Ztab_ok, conOf_sound ⟨Zh_sum_Three_c1, Zh_sum_row, Zh_mbits_Len, trivial⟩⟩
theorem Zat_sum_Three : FnAt Tryz.prog 107 Tryz.f107.ntmps Tryz.f107.results.toList (Tryz.f107.body.getD .skip) := ⟨Tryz.f107, Tryz.func107, rfl, rfl, by simp, by decide⟩
theorem Zeq_sum_Three (a : Nat) (b : Nat) (c : Nat) (post : Nat × Unit → Prop) : fnEvalI Zx_sum_Three Zhn_sum_Three (callLvl Zx_sum_Three Zfns_sort3 5) Tryz.f107.ntmps Tryz.f107.results.toList (Tryz.f107.body.getD .skip) [.flt .f64, .flt .f64, .flt .f64] [.snap (.flt .f64)] (a, b, c, ()) post = Fx_sum_Three  a b c post := by kernel_rfl
theorem Zh_sum_Three : Zq_sum_Three.holds Tryz.prog ZG 107 :=
  detPI Zx_sum_Three_ok Zmixed Zhn_sum_Three (callLvl_ok Zx_sum_Three_ok Zmixed Zfns_sort3_ok 5) Zat_sum_Three (F := fun x post => Fx_sum_Three  x.1 x.2.1 x.2.2.1 post) (fun x post => Zeq_sum_Three x.1 x.2.1 x.2.2.1 post) fun x h _ => Lx_sum_Three  x.1 x.2.1 x.2.2.1 h
end Go.Lift

/- Contracts of functions, of a seat. Own work. -/
set_option linter.unusedVariables false
set_option linter.unusedSimpArgs false
namespace Go.Lift
open Go.Proofs
def Zx_vec_canon : Cx := ⟨tabOf Ztab, conOf [(105, Zq_bits_Canon)], ZG⟩
theorem Zx_vec_canon_ok : CxOk Tryz.prog Zx_vec_canon := ⟨tabB_sound Ztab_ok, conOf_sound ⟨Zh_bits_Canon, trivial⟩⟩
theorem Zat_vec_canon : FnAt Tryz.prog 108 Tryz.f108.ntmps Tryz.f108.results.toList (Tryz.f108.body.getD .skip) := ⟨Tryz.f108, Tryz.func108, rfl, rfl, by simp, by decide⟩
theorem Zeq_vec_canon (a : Nat) (b : Nat) (c : Nat) (post : (Nat × Nat × Nat) × Unit → Prop) : fnEval Zx_vec_canon nHn Tryz.f108.ntmps Tryz.f108.results.toList (Tryz.f108.body.getD .skip) [.flt .f64, .flt .f64, .flt .f64] [.snap kVec] (a, b, c, ()) post = Fx_vec_canon  a b c post := by kernel_rfl
theorem Zh_vec_canon : Zq_vec_canon.holds Tryz.prog ZG 108 :=
  detP Zx_vec_canon_ok Zmixed nHn Zat_vec_canon (F := fun x post => Fx_vec_canon  x.1 x.2.1 x.2.2.1 post) (fun x post => Zeq_vec_canon x.1 x.2.1 x.2.2.1 post) fun x _ _ => Lx_vec_canon  x.1 x.2.1 x.2.2.1
def Zx_ref07_made : Cx := ⟨tabOf Ztab, conOf [(116, Zq_ref01_Canon)], ZG⟩
theorem Zx_ref07_made_ok : CxOk Tryz.prog Zx_ref07_made := ⟨tabB_sound Ztab_ok, conOf_sound ⟨Zh_ref01_Canon, trivial⟩⟩
theorem Zat_ref07_made : FnAt Tryz.prog 119 Tryz.f119.ntmps Tryz.f119.results.toList (Tryz.f119.body.getD .skip) := ⟨Tryz.f119, Tryz.func119, rfl, rfl, by simp, by decide⟩
theorem Zeq_ref07_made (a : Nat) (b : Nat) (c : Nat) (post : (Nat × Nat × Nat) × Unit → Prop) : fnEval Zx_ref07_made nHn Tryz.f119.ntmps Tryz.f119.results.toList (Tryz.f119.body.getD .skip) [.flt .f64, .flt .f64, .flt .f64] [.snap kVec] (a, b, c, ()) post = Fx_ref07_made  a b c post := by kernel_rfl
theorem Zh_ref07_made : Zq_ref07_made.holds Tryz.prog ZG 119 :=
  detP Zx_ref07_made_ok Zmixed nHn Zat_ref07_made (F := fun x post => Fx_ref07_made  x.1 x.2.1 x.2.2.1 post) (fun x post => Zeq_ref07_made x.1 x.2.1 x.2.2.1 post) fun x h _ => Lx_ref07_made  x.1 x.2.1 x.2.2.1 h
def Zx_vec_Minus : Cx := ⟨tabOf Ztab, conOf [(108, Zq_vec_canon)], ZG⟩
theorem Zx_vec_Minus_ok : CxOk Tryz.prog Zx_vec_Minus := ⟨tabB_sound Ztab_ok, conOf_sound ⟨Zh_vec_canon, trivial⟩⟩
theorem Zat_vec_Minus : FnAt Tryz.prog 73 Tryz.f73.ntmps Tryz.f73.results.toList (Tryz.f73.body.getD .skip) := ⟨Tryz.f73, Tryz.func73, rfl, rfl, by simp, by decide⟩
theorem Zeq_vec_Minus (a : Nat × Nat × Nat) (b : Nat × Nat × Nat) (post : (Nat × Nat × Nat) × Unit → Prop) : fnEval Zx_vec_Minus nHn Tryz.f73.ntmps Tryz.f73.results.toList (Tryz.f73.body.getD .skip) [kVec, kVec] [.snap kVec] (a, b, ()) post = Fx_vec_Minus  a b post := by kernel_rfl
theorem Zh_vec_Minus : Zq_vec_Minus.holds Tryz.prog ZG 73 :=
  detP Zx_vec_Minus_ok Zmixed nHn Zat_vec_Minus (F := fun x post => Fx_vec_Minus  x.1 x.2.1 post) (fun x post => Zeq_vec_Minus x.1 x.2.1 post) fun x h _ => Lx_vec_Minus  x.1 x.2.1 h
def Zx_ref07_Minus : Cx := ⟨tabOf Ztab, conOf [(119, Zq_ref07_made)], ZG⟩
theorem Zx_ref07_Minus_ok : CxOk Tryz.prog Zx_ref07_Minus := ⟨tabB_sound Ztab_ok, conOf_sound ⟨Zh_ref07_made, trivial⟩⟩
theorem Zat_ref07_Minus : FnAt Tryz.prog 84 Tryz.f84.ntmps Tryz.f84.results.toList (Tryz.f84.body.getD .skip) := ⟨Tryz.f84, Tryz.func84, rfl, rfl, by simp, by decide⟩
theorem Zeq_ref07_Minus (a : Nat × Nat × Nat) (b : Nat × Nat × Nat) (post : (Nat × Nat × Nat) × Unit → Prop) : fnEval Zx_ref07_Minus nHn Tryz.f84.ntmps Tryz.f84.results.toList (Tryz.f84.body.getD .skip) [kVec, kVec] [.snap kVec] (a, b, ()) post = Fx_ref07_Minus  a b post := by kernel_rfl
theorem Zh_ref07_Minus : Zq_ref07_Minus.holds Tryz.prog ZG 84 :=
  detP Zx_ref07_Minus_ok Zmixed nHn Zat_ref07_Minus (F := fun x post => Fx_ref07_Minus  x.1 x.2.1 post) (fun x post => Zeq_ref07_Minus x.1 x.2.1 post) fun x h _ => Lx_ref07_Minus  x.1 x.2.1 h
def Zx_ref07_less : Cx := ⟨tabOf Ztab, conOf [], ZG⟩
theorem Zx_ref07_less_ok : CxOk Tryz.prog Zx_ref07_less := ⟨tabB_sound Ztab_ok, fun f c h => by cases h⟩
theorem Zat_ref07_less : FnAt Tryz.prog 120 Tryz.f120.ntmps Tryz.f120.results.toList (Tryz.f120.body.getD .skip) := ⟨Tryz.f120, Tryz.func120, rfl, rfl, by simp, by decide⟩
theorem Zeq_ref07_less (a : Nat) (b : Nat) (c : Nat) (d : Nat) (post : Nat × Unit → Prop) : fnEval Zx_ref07_less nHn Tryz.f120.ntmps Tryz.f120.results.toList (Tryz.f120.body.getD .skip) [.flt .f64, .flt .f64, .flt .f64, .flt .f64] [.snap (.flt .f64)] (a, b, c, d, ()) post = Fx_ref07_less  a b c d post := by kernel_rfl
theorem Zh_ref07_less : Zq_ref07_less.holds Tryz.prog ZG 120 :=
  relP Zx_ref07_less_ok Zmixed nHn Zat_ref07_less (F := fun x post => Fx_ref07_less  x.1 x.2.1 x.2.2.1 x.2.2.2.1 post) (fun x post => Zeq_ref07_less x.1 x.2.1 x.2.2.1 x.2.2.2.1 post) fun x _ _ => Lx_ref07_less  x.1 x.2.1 x.2.2.1 x.2.2.2.1
def Zx_vec_Cross : Cx := ⟨tabOf Ztab, conOf [(108, Zq_vec_canon)], ZG⟩
theorem Zx_vec_Cross_ok : CxOk Tryz.prog Zx_vec_Cross := ⟨tabB_sound Ztab_ok, conOf_sound ⟨Zh_vec_canon, trivial⟩⟩
theorem Zat_vec_Cross : FnAt Tryz.prog 72 Tryz.f72.ntmps Tryz.f72.results.toList (Tryz.f72.body.getD .skip) := ⟨Tryz.f72, Tryz.func72, rfl, rfl, by simp, by decide⟩
theorem Zeq_vec_Cross (a : Nat × Nat × Nat) (b : Nat × Nat × Nat) (post : (Nat × Nat × Nat) × Unit → Prop) : fnEval Zx_vec_Cross nHn Tryz.f72.ntmps Tryz.f72.results.toList (Tryz.f72.body.getD .skip) [kVec, kVec] [.snap kVec] (a, b, ()) post = Fx_vec_Cross  a b post := by kernel_rfl
theorem Zh_vec_Cross : Zq_vec_Cross.holds Tryz.prog ZG 72 :=
  detP Zx_vec_Cross_ok Zmixed nHn Zat_vec_Cross (F := fun x post => Fx_vec_Cross  x.1 x.2.1 post) (fun x post => Zeq_vec_Cross x.1 x.2.1 post) fun x _ _ => Lx_vec_Cross  x.1 x.2.1
def Zx_ref07_Cross : Cx := ⟨tabOf Ztab, conOf [(120, Zq_ref07_less), (119, Zq_ref07_made)], ZG⟩
theorem Zx_ref07_Cross_ok : CxOk Tryz.prog Zx_ref07_Cross := ⟨tabB_sound Ztab_ok, conOf_sound ⟨Zh_ref07_less, Zh_ref07_made, trivial⟩⟩
theorem Zat_ref07_Cross : FnAt Tryz.prog 83 Tryz.f83.ntmps Tryz.f83.results.toList (Tryz.f83.body.getD .skip) := ⟨Tryz.f83, Tryz.func83, rfl, rfl, by simp, by decide⟩
theorem Zeq_ref07_Cross (a : Nat × Nat × Nat) (b : Nat × Nat × Nat) (post : (Nat × Nat × Nat) × Unit → Prop) : fnEval Zx_ref07_Cross nHn Tryz.f83.ntmps Tryz.f83.results.toList (Tryz.f83.body.getD .skip) [kVec, kVec] [.snap kVec] (a, b, ()) post = Fx_ref07_Cross  a b post := by kernel_rfl
theorem Zh_ref07_Cross : Zq_ref07_Cross.holds Tryz.prog ZG 83 :=
  detP Zx_ref07_Cross_ok Zmixed nHn Zat_ref07_Cross (F := fun x post => Fx_ref07_Cross  x.1 x.2.1 post) (fun x post => Zeq_ref07_Cross x.1 x.2.1 post) fun x _ _ => Lx_ref07_Cross  x.1 x.2.1
def Zx_math_Sqrt : Cx := ⟨tabOf Ztab, conOf [(135, Zq_math_sqrt)], ZG⟩
theorem Zx_math_Sqrt_ok : CxOk Tryz.prog Zx_math_Sqrt := ⟨tabB_sound Ztab_ok, conOf_sound ⟨Zh_math_sqrt, trivial⟩⟩
theorem Zat_math_Sqrt : FnAt Tryz.prog 106 Tryz.f106.ntmps Tryz.f106.results.toList (Tryz.f106.body.getD .skip) := ⟨Tryz.f106, Tryz.func106, rfl, rfl, by simp, by decide⟩
theorem Zeq_math_Sqrt (a : Nat) (post : Nat × Unit → Prop) : fnEval Zx_math_Sqrt nHn Tryz.f106.ntmps Tryz.f106.results.toList (Tryz.f106.body.getD .skip) [.flt .f64] [.snap (.flt .f64)] (a, ()) post = Fx_math_Sqrt  a post := by kernel_rfl
theorem Zh_math_Sqrt : Zq_math_Sqrt.holds Tryz.prog ZG 106 :=
  relP Zx_math_Sqrt_ok Zmixed nHn Zat_math_Sqrt (F := fun x post => Fx_math_Sqrt  x.1 post) (fun x post => Zeq_math_Sqrt x.1 post) fun x _ _ => Lx_math_Sqrt  x.1
def Zx_raw_Sqrt : Cx := ⟨tabOf Ztab, conOf [(106, Zq_math_Sqrt)], ZG⟩
theorem Zx_raw_Sqrt_ok : CxOk Tryz.prog Zx_raw_Sqrt := ⟨tabB_sound Ztab_ok, conOf_sound ⟨Zh_math_Sqrt, trivial⟩⟩
theorem Zat_raw_Sqrt : FnAt Tryz.prog 117 Tryz.f117.ntmps Tryz.f117.results.toList (Tryz.f117.body.getD .skip) := ⟨Tryz.f117, Tryz.func117, rfl, rfl, by simp, by decide⟩
theorem Zeq_raw_Sqrt (a : Nat) (post : Nat × Unit → Prop) : fnEval Zx_raw_Sqrt nHn Tryz.f117.ntmps Tryz.f117.results.toList (Tryz.f117.body.getD .skip) [.flt .f64] [.snap (.flt .f64)] (a, ()) post = Fx_raw_Sqrt  a post := by kernel_rfl
theorem Zh_raw_Sqrt : Zq_raw_Sqrt.holds Tryz.prog ZG 117 :=
  relP Zx_raw_Sqrt_ok Zmixed nHn Zat_raw_Sqrt (F := fun x post => Fx_raw_Sqrt  x.1 post) (fun x post => Zeq_raw_Sqrt x.1 post) fun x _ _ => Lx_raw_Sqrt  x.1
def Zx_vec_Length : Cx := ⟨tabOf Ztab, conOf [(107, Zq_sum_Three), (106, Zq_math_Sqrt), (105, Zq_bits_Canon)], ZG⟩
theorem Zx_vec_Length_ok : CxOk Tryz.prog Zx_vec_Length := ⟨tabB_sound Ztab_ok, conOf_sound ⟨Zh_sum_Three, Zh_math_Sqrt, Zh_bits_Canon, trivial⟩⟩
theorem Zat_vec_Length : FnAt Tryz.prog 71 Tryz.f71.ntmps Tryz.f71.results.toList (Tryz.f71.body.getD .skip) := ⟨Tryz.f71, Tryz.func71, rfl, rfl, by simp, by decide⟩
theorem Zeq_vec_Length (a : Nat × Nat × Nat) (post : Nat × Unit → Prop) : fnEval Zx_vec_Length nHn Tryz.f71.ntmps Tryz.f71.results.toList (Tryz.f71.body.getD .skip) [kVec] [.snap (.flt .f64)] (a, ()) post = Fx_vec_Length  a post := by kernel_rfl
theorem Zh_vec_Length : Zq_vec_Length.holds Tryz.prog ZG 71 :=
  detP Zx_vec_Length_ok Zmixed nHn Zat_vec_Length (F := fun x post => Fx_vec_Length  x.1 post) (fun x post => Zeq_vec_Length x.1 post) fun x h _ => Lx_vec_Length  x.1 h
def Zx_ref07_Length : Cx := ⟨tabOf Ztab, conOf [(118, Zq_ref05_Three), (117, Zq_raw_Sqrt), (116, Zq_ref01_Canon)], ZG⟩
theorem Zx_ref07_Length_ok : CxOk Tryz.prog Zx_ref07_Length := ⟨tabB_sound Ztab_ok, conOf_sound ⟨Zh_ref05_Three, Zh_raw_Sqrt, Zh_ref01_Canon, trivial⟩⟩
theorem Zat_ref07_Length : FnAt Tryz.prog 82 Tryz.f82.ntmps Tryz.f82.results.toList (Tryz.f82.body.getD .skip) := ⟨Tryz.f82, Tryz.func82, rfl, rfl, by simp, by decide⟩
theorem Zeq_ref07_Length (a : Nat × Nat × Nat) (post : Nat × Unit → Prop) : fnEval Zx_ref07_Length nHn Tryz.f82.ntmps Tryz.f82.results.toList (Tryz.f82.body.getD .skip) [kVec] [.snap (.flt .f64)] (a, ()) post = Fx_ref07_Length  a post := by kernel_rfl
theorem Zh_ref07_Length : Zq_ref07_Length.holds Tryz.prog ZG 82 :=
  detP Zx_ref07_Length_ok Zmixed nHn Zat_ref07_Length (F := fun x post => Fx_ref07_Length  x.1 post) (fun x post => Zeq_ref07_Length x.1 post) fun x h _ => Lx_ref07_Length  x.1 h
def Zx_vec_Gap : Cx := ⟨tabOf Ztab, conOf [(73, Zq_vec_Minus), (71, Zq_vec_Length)], ZG⟩
theorem Zx_vec_Gap_ok : CxOk Tryz.prog Zx_vec_Gap := ⟨tabB_sound Ztab_ok, conOf_sound ⟨Zh_vec_Minus, Zh_vec_Length, trivial⟩⟩
theorem Zat_vec_Gap : FnAt Tryz.prog 130 Tryz.f130.ntmps Tryz.f130.results.toList (Tryz.f130.body.getD .skip) := ⟨Tryz.f130, Tryz.func130, rfl, rfl, by simp, by decide⟩
theorem Zeq_vec_Gap (a : Nat × Nat × Nat) (b : Nat × Nat × Nat) (post : Nat × Unit → Prop) : fnEval Zx_vec_Gap nHn Tryz.f130.ntmps Tryz.f130.results.toList (Tryz.f130.body.getD .skip) [kVec, kVec] [.snap (.flt .f64)] (a, b, ()) post = Fx_vec_Gap  a b post := by kernel_rfl
theorem Zh_vec_Gap : Zq_vec_Gap.holds Tryz.prog ZG 130 :=
  detP Zx_vec_Gap_ok Zmixed nHn Zat_vec_Gap (F := fun x post => Fx_vec_Gap  x.1 x.2.1 post) (fun x post => Zeq_vec_Gap x.1 x.2.1 post) fun x h _ => Lx_vec_Gap  x.1 x.2.1 h
def Zx_vec_Unit : Cx := ⟨tabOf Ztab, conOf [(71, Zq_vec_Length), (165, Zq_math_IsInf), (108, Zq_vec_canon)], ZG⟩
theorem Zx_vec_Unit_ok : CxOk Tryz.prog Zx_vec_Unit := ⟨tabB_sound Ztab_ok, conOf_sound ⟨Zh_vec_Length, Zh_math_IsInf, Zh_vec_canon, trivial⟩⟩
theorem Zat_vec_Unit : FnAt Tryz.prog 153 Tryz.f153.ntmps Tryz.f153.results.toList (Tryz.f153.body.getD .skip) := ⟨Tryz.f153, Tryz.func153, rfl, rfl, by simp, by decide⟩
theorem Zeq_vec_Unit (a : Nat × Nat × Nat) (post : (Nat × Nat × Nat) × Unit → Prop) : fnEval Zx_vec_Unit nHn Tryz.f153.ntmps Tryz.f153.results.toList (Tryz.f153.body.getD .skip) [kVec] [.snap kVec] (a, ()) post = Fx_vec_Unit  a post := by kernel_rfl
theorem Zh_vec_Unit : Zq_vec_Unit.holds Tryz.prog ZG 153 :=
  detP Zx_vec_Unit_ok Zmixed nHn Zat_vec_Unit (F := fun x post => Fx_vec_Unit  x.1 post) (fun x post => Zeq_vec_Unit x.1 post) fun x h _ => Lx_vec_Unit  x.1 h
def Zx_ref07_Unit : Cx := ⟨tabOf Ztab, conOf [(82, Zq_ref07_Length), (161, Zq_ref01_Class), (119, Zq_ref07_made)], ZG⟩
theorem Zx_ref07_Unit_ok : CxOk Tryz.prog Zx_ref07_Unit := ⟨tabB_sound Ztab_ok, conOf_sound ⟨Zh_ref07_Length, Zh_ref01_Class, Zh_ref07_made, trivial⟩⟩
theorem Zat_ref07_Unit : FnAt Tryz.prog 145 Tryz.f145.ntmps Tryz.f145.results.toList (Tryz.f145.body.getD .skip) := ⟨Tryz.f145, Tryz.func145, rfl, rfl, by simp, by decide⟩
theorem Zeq_ref07_Unit (a : Nat × Nat × Nat) (post : (Nat × Nat × Nat) × Unit → Prop) : fnEval Zx_ref07_Unit nHn Tryz.f145.ntmps Tryz.f145.results.toList (Tryz.f145.body.getD .skip) [kVec] [.snap kVec] (a, ()) post = Fx_ref07_Unit  a post := by kernel_rfl
theorem Zh_ref07_Unit : Zq_ref07_Unit.holds Tryz.prog ZG 145 :=
  detP Zx_ref07_Unit_ok Zmixed nHn Zat_ref07_Unit (F := fun x post => Fx_ref07_Unit  x.1 post) (fun x post => Zeq_ref07_Unit x.1 post) fun x h _ => Lx_ref07_Unit  x.1 h
end Go.Lift

/- Own work. -/
set_option linter.unusedVariables false
set_option linter.unusedSimpArgs false
namespace Go.Lift
def Fx_conv_FromInt := fun (a : Int) (post : Nat × Unit → Prop) => post (Go.FloatKind.f64.nearest a, ())
theorem Lx_conv_FromInt (a : Int) : Fx_conv_FromInt  a (fun r => r = ofIR a) := by
  exact rfl
def Fx_level_Depth := fun (a b : Int) (post : Nat × Unit → Prop) => ∀ (a_1 : Bool), a_1 = decide (a < (1 : Int)) → Br a_1 (post ((0 : Nat), ())) (∀ (a_2 : Bool), a_2 = decide (b <
  (1 : Int)) → Br a_2 (post ((0 : Nat), ())) (∃ (h : True), ∃ (h : True), ∀ (a_3 : Nat), FRes Go.FloatKind.f64 (Go.FloatKind.f64.format.div (ofIR a).fst (ofIR b).fst) a_3 → post
  (a_3, ())))
theorem Lx_level_Depth (a : Int) (b : Int) (h : II a b) : Fx_level_Depth  a b (fun r => r = depthR a b) := by
  rintro _ rfl
  refine Br.intro (fun e => ?_) fun e => ?_
  · exact congrArg r1 (by unfold depthQ; rw [if_pos (.inl (of_decide_eq_true e))])
  · rintro _ rfl
    refine Br.intro (fun f => ?_) fun f => ?_
    · exact congrArg r1 (by unfold depthQ; rw [if_pos (.inr (of_decide_eq_true f))])
    · have e := of_decide_eq_false e
      have f := of_decide_eq_false f
      refine ⟨trivial, trivial, fun r hr => congrArg r1 ?_⟩
      rw [div_ofI h.1 (by omega) h.2 hr]
      unfold depthQ; rw [if_neg (by omega)]
def Fx_math_Floor := fun (a : Nat) (post : Nat × Unit → Prop) => ∃ (h : WNum a), post ((floorR a).fst, ())
theorem Lx_math_Floor (a : Nat) (h : WNum a) : Fx_math_Floor  a (fun r => r = floorR a) := by
  exact ⟨h, rfl⟩
def Fx_conv_To32 := fun (a : Nat) (post : Int × Unit → Prop) => ∃ (h : True), ∃ (h : (0 : Int) ≤ (32 : Int)), ∃ (h : W64 a), ∃ (h : True), ∀ (a_1 : Bool), a_1 = (nanR a).fst → Br
  a_1 (post ((2143289344 : Int), ())) (∀ (a_2 : Bool), a_2 = fcmp Go.BinOp.geq (Go.FloatKind.f64.format.order (absR a).fst (5183643170835005440 : Nat)) → Br a_2 (post (Go.bits
  Go.BinOp.or IntKind.u32 (IntKind.u32.wrap (Go.bits Go.BinOp.and IntKind.u64 ((bitsR a).fst.fdiv ((2 : Int) ^ Min.min (Int.toNat (32 : Int)) IntKind.u64.bits)) (2147483648 : Int)))
  (2139095040 : Int), ())) (∀ (a_3 : Nat), F2F Go.FloatKind.f64 (absR a).fst Go.FloatKind.f32 a_3 → ∃ (h : True), post (Go.bits Go.BinOp.or IntKind.u32 (IntKind.u32.wrap (Go.bits
  Go.BinOp.and IntKind.u64 ((bitsR a).fst.fdiv ((2 : Int) ^ Min.min (Int.toNat (32 : Int)) IntKind.u64.bits)) (2147483648 : Int))) (bits32R a_3).fst, ())))
theorem Lx_conv_To32 (a : Nat) (h : W64 a) : Fx_conv_To32  a (fun r => r = to32R a) := by
  refine ⟨trivial, by decide, h, trivial, ?_⟩
  have hs := sign_part h
  rintro _ rfl
  refine Br.intro (fun e => ?_) fun e => ?_
  · have e : isN a = true := e
    exact congrArg r1 (by unfold to32; rw [if_pos e])
  · have e : isN a = false := e
    rintro _ rfl
    refine Br.intro (fun f => ?_) fun f => ?_
    · have f : fcmp .geq (Ieee.double.order (rungOf a) 5183643170835005440) = true := f
      rw [geq_big, e] at f
      have f : 5183643170835005440 ≤ rungOf a := by simpa using f
      refine congrArg r1 ?_
      show Go.bits .or .u32 (IntKind.u32.wrap (Go.bits .and .u64 (Int.fdiv (a : Int) _) 2147483648)) ((2139095040 : Nat) : Int) = _
      rw [hs, or32 _ (by decide)]
      unfold to32; rw [if_neg (c := isN a = true) (by rw [e]; decide), if_pos f]
    · have f : fcmp .geq (Ieee.double.order (rungOf a) 5183643170835005440) = false := f
      rw [geq_big, e] at f
      have f : rungOf a < 5183643170835005440 := by simpa using f
      intro n hn
      have hn : n = Ieee.single.write (Ieee.double.read (rungOf a)) := to32_conv f hn
      obtain ⟨k, hk, hk2⟩ := single_small f
      refine ⟨trivial, congrArg r1 ?_⟩
      show Go.bits .or .u32 (IntKind.u32.wrap (Go.bits .and .u64 (Int.fdiv (a : Int) _) 2147483648)) (n : Int) = _
      rw [hs, hn, hk2, or32 _ (by omega)]
      unfold to32; rw [if_neg (c := isN a = true) (by rw [e]; decide), if_neg (c := 5183643170835005440 ≤ rungOf a) (by omega), hk2]
def Fx_conv_near := fun (a : Nat) (post : Int × Unit → Prop) => ∃ (h : WNum a), ∀ (a_1 : Int), F2I Go.FloatKind.f64 (floorR a).fst IntKind.u64 a_1 → ∀ (a_2 : Nat), FRes
  Go.FloatKind.f64 (Go.FloatKind.f64.format.sub a (floorR a).fst) a_2 → ∀ (a : Bool), a = fcmp Go.BinOp.gtr (Go.FloatKind.f64.format.order a_2 (4602678819172646912 : Nat)) → Br a
  (post (IntKind.u64.wrap (a_1 + (1 : Int)), ())) (∀ (a : Bool), a = fcmp Go.BinOp.eql (Go.FloatKind.f64.format.order a_2 (4602678819172646912 : Nat)) → Br a (∃ (h : (2 : Int) ≠ (0
  : Int)), ∀ (a : Bool), a = (a_1.tmod (2 : Int) == (1 : Int)) → Br a (post (IntKind.u64.wrap (a_1 + (1 : Int)), ())) (post (a_1, ()))) (post (a_1, ())))
theorem Lx_conv_near (a : Nat) (h : WNear a) : Fx_conv_near  a (fun r => r = nearR a) := by
  have hw : W64 a := by unfold WNear two63 at h; unfold W64; omega
  have hn : isN a = false := by
    have := (small_sgn (r := a) (by unfold WNear two63 at h; omega)).2.1
    unfold isN; rw [this, decide_eq_false_iff_not]; unfold WNear two63 at h; unfold infR; omega
  refine ⟨⟨hw, hn⟩, ?_⟩
  intro n hn2
  have hn2 := floor_int h hn2
  subst hn2
  intro d hd
  have hd : ∀ z, Ieee.double.order d z = Ieee.double.order (subQ a (floorF a)) z := sub_congr_order hd
  obtain ⟨_, r1', r2'⟩ := whole_rng h
  have hwp : IntKind.u64.wrap (wholeI (floorF a) + 1) = wholeI (floorF a) + 1 := wu1 ⟨by omega, by omega⟩
  have tm : (wholeI (floorF a)).tmod 2 = wholeI (floorF a) % 2 := Int.tmod_eq_emod_of_nonneg r1'
  rintro _ rfl
  refine Br.intro (fun e => ?_) fun e => ?_
  · rw [show Go.FloatKind.f64.format.order d 4602678819172646912 = _ from hd _] at e
    exact congrArg r1 (by rw [hwp]; unfold nearI; rw [if_pos (by rw [show fcmp .gtr (Ieee.double.order (subQ a (floorF a)) halfR) = true from e]; rfl)])
  · rw [show Go.FloatKind.f64.format.order d 4602678819172646912 = _ from hd _] at e
    rintro _ rfl
    refine Br.intro (fun f => ?_) fun f => ?_
    · rw [show Go.FloatKind.f64.format.order d 4602678819172646912 = _ from hd _] at f
      refine ⟨by decide, ?_⟩
      rintro _ rfl
      refine Br.intro (fun g => ?_) fun g => ?_
      · rw [tm] at g
        exact congrArg r1 (by rw [hwp]; unfold nearI; rw [if_pos (by rw [show fcmp .eql (Ieee.double.order (subQ a (floorF a)) halfR) = true from f, g, Bool.true_and, Bool.or_true])])
      · rw [tm] at g
        exact congrArg r1 (by unfold nearI; rw [if_neg (by rw [show fcmp .gtr (Ieee.double.order (subQ a (floorF a)) halfR) = false from e, g, Bool.and_false]; decide)])
    · rw [show Go.FloatKind.f64.format.order d 4602678819172646912 = _ from hd _] at f
      exact congrArg r1 (by unfold nearI; rw [if_neg (by rw [show fcmp .gtr (Ieee.double.order (subQ a (floorF a)) halfR) = false from e, show fcmp .eql (Ieee.double.order (subQ a (floorF a)) halfR) = false from f, Bool.false_and]; decide)])
def Fx_conv_Round := fun (a : Nat) (post : Int × Bool × Unit → Prop) => ∃ (h : W64 a), ∀ (a_1 : Bool), a_1 = fcmp Go.BinOp.lss (Go.FloatKind.f64.format.order (absR a).fst
  (4890909195324358656 : Nat)) → Br a_1 (∃ (h : WNear (absR a).fst), ∀ (a_2 : Bool), a_2 = fcmp Go.BinOp.lss (Go.FloatKind.f64.format.order a (0 : Nat)) → Br a_2 (post
  (IntKind.i64.wrap ((0 : Int) - IntKind.i64.wrap (nearR (absR a).fst).fst), Bool.true, ())) (post (IntKind.i64.wrap (nearR (absR a).fst).fst, Bool.true, ()))) (∀ (a_2 : Bool), a_2
  = fcmp Go.BinOp.eql (Go.FloatKind.f64.format.order a (14114281232179134464 : Nat)) → Br a_2 (post ((-9223372036854775808 : Int), Bool.true, ())) (post ((0 : Int), Bool.false,
  ())))
theorem Lx_conv_Round (a : Nat) (h : W64 a) : Fx_conv_Round  a (fun r => r = roundR a) := by
  refine ⟨h, ?_⟩
  rintro _ rfl
  refine Br.intro (fun e => ?_) fun e => ?_
  · have e : fcmp .lss (Ieee.double.order (rungOf a) two63) = true := e
    rw [lss_rung] at e
    have e := of_decide_eq_true e
    have hn : isN a = false := by unfold isN; rw [decide_eq_false_iff_not]; unfold two63 at e; unfold infR; omega
    refine ⟨e, ?_⟩
    rintro _ rfl
    refine Br.intro (fun f => ?_) fun f => ?_
    · rw [show fcmp .lss (Go.FloatKind.f64.format.order a 0) = _ from lss_nought hn] at f
      unfold roundR roundI; rw [if_pos e, if_pos f]; rfl
    · rw [show fcmp .lss (Go.FloatKind.f64.format.order a 0) = _ from lss_nought hn] at f
      unfold roundR roundI; rw [if_pos e, if_neg (by rw [f]; decide)]; rfl
  · have e : fcmp .lss (Ieee.double.order (rungOf a) two63) = false := e
    rw [lss_rung] at e
    have e := of_decide_eq_false e
    rintro _ rfl
    refine Br.intro (fun f => ?_) fun f => ?_
    · rw [show fcmp .eql (Go.FloatKind.f64.format.order a 14114281232179134464) = _ from eql_min h] at f
      unfold roundR roundI; rw [if_neg e, if_pos (show a = two63 + 9223372036854775808 from of_decide_eq_true f)]
    · rw [show fcmp .eql (Go.FloatKind.f64.format.order a 14114281232179134464) = _ from eql_min h] at f
      unfold roundR roundI; rw [if_neg e, if_neg (show ¬ a = two63 + 9223372036854775808 from of_decide_eq_false f)]
end Go.Lift

/- Contracts of functions, of a seat. Own work. -/
set_option linter.unusedVariables false
set_option linter.unusedSimpArgs false
namespace Go.Lift
open Go.Proofs
def Zx_conv_FromInt : Cx := ⟨tabOf Ztab, conOf [], ZG⟩
theorem Zx_conv_FromInt_ok : CxOk Tryz.prog Zx_conv_FromInt := ⟨tabB_sound Ztab_ok, fun f c h => by cases h⟩
theorem Zat_conv_FromInt : FnAt Tryz.prog 69 Tryz.f69.ntmps Tryz.f69.results.toList (Tryz.f69.body.getD .skip) := ⟨Tryz.f69, Tryz.func69, rfl, rfl, by simp, by decide⟩
theorem Zeq_conv_FromInt (a : Int) (post : Nat × Unit → Prop) : fnEval Zx_conv_FromInt nHn Tryz.f69.ntmps Tryz.f69.results.toList (Tryz.f69.body.getD .skip) [.int .i64] [.snap (.flt .f64)] (a, ()) post = Fx_conv_FromInt  a post := by kernel_rfl
theorem Zh_conv_FromInt : Zq_conv_FromInt.holds Tryz.prog ZG 69 :=
  detP Zx_conv_FromInt_ok Zmixed nHn Zat_conv_FromInt (F := fun x post => Fx_conv_FromInt  x.1 post) (fun x post => Zeq_conv_FromInt x.1 post) fun x _ _ => Lx_conv_FromInt  x.1
def Zx_level_Depth : Cx := ⟨tabOf Ztab, conOf [(69, Zq_conv_FromInt)], ZG⟩
theorem Zx_level_Depth_ok : CxOk Tryz.prog Zx_level_Depth := ⟨tabB_sound Ztab_ok, conOf_sound ⟨Zh_conv_FromInt, trivial⟩⟩
theorem Zat_level_Depth : FnAt Tryz.prog 33 Tryz.f33.ntmps Tryz.f33.results.toList (Tryz.f33.body.getD .skip) := ⟨Tryz.f33, Tryz.func33, rfl, rfl, by simp, by decide⟩
theorem Zeq_level_Depth (a : Int) (b : Int) (post : Nat × Unit → Prop) : fnEval Zx_level_Depth nHn Tryz.f33.ntmps Tryz.f33.results.toList (Tryz.f33.body.getD .skip) [.int .i64, .int .i64] [.snap (.flt .f64)] (a, b, ()) post = Fx_level_Depth  a b post := by kernel_rfl
theorem Zh_level_Depth : Zq_level_Depth.holds Tryz.prog ZG 33 :=
  detP Zx_level_Depth_ok Zmixed nHn Zat_level_Depth (F := fun x post => Fx_level_Depth  x.1 x.2.1 post) (fun x post => Zeq_level_Depth x.1 x.2.1 post) fun x h _ => Lx_level_Depth  x.1 x.2.1 h
theorem Zh_math_Float32bits : Zq_math_Float32bits.holds Tryz.prog ZG 68 := by
  refine ext_bits32 (fn := Tryz.f68) Tryz.func68 (by decide) rfl rfl (by kernel_rfl)
theorem Zh_math_archFloor : Zq_math_archFloor.holds Tryz.prog ZG 159 := by
  refine ext_floor (fn := Tryz.f159) Tryz.func159 (by decide) rfl rfl (by kernel_rfl)
def Zx_math_Floor : Cx := ⟨tabOf Ztab, conOf [(159, Zq_math_archFloor)], ZG⟩
theorem Zx_math_Floor_ok : CxOk Tryz.prog Zx_math_Floor := ⟨tabB_sound Ztab_ok, conOf_sound ⟨Zh_math_archFloor, trivial⟩⟩
theorem Zat_math_Floor : FnAt Tryz.prog 143 Tryz.f143.ntmps Tryz.f143.results.toList (Tryz.f143.body.getD .skip) := ⟨Tryz.f143, Tryz.func143, rfl, rfl, by simp, by decide⟩
theorem Zeq_math_Floor (a : Nat) (post : Nat × Unit → Prop) : fnEval Zx_math_Floor nHn Tryz.f143.ntmps Tryz.f143.results.toList (Tryz.f143.body.getD .skip) [.flt .f64] [.snap (.flt .f64)] (a, ()) post = Fx_math_Floor  a post := by kernel_rfl
theorem Zh_math_Floor : Zq_math_Floor.holds Tryz.prog ZG 143 :=
  detP Zx_math_Floor_ok Zmixed nHn Zat_math_Floor (F := fun x post => Fx_math_Floor  x.1 post) (fun x post => Zeq_math_Floor x.1 post) fun x h _ => Lx_math_Floor  x.1 h
def Zx_conv_To32 : Cx := ⟨tabOf Ztab, conOf [(45, Zq_math_Float64bits), (66, Zq_math_Abs), (67, Zq_math_IsNaN), (68, Zq_math_Float32bits)], ZG⟩
theorem Zx_conv_To32_ok : CxOk Tryz.prog Zx_conv_To32 := ⟨tabB_sound Ztab_ok, conOf_sound ⟨Zh_math_Float64bits, Zh_math_Abs, Zh_math_IsNaN, Zh_math_Float32bits, trivial⟩⟩
theorem Zat_conv_To32 : FnAt Tryz.prog 32 Tryz.f32.ntmps Tryz.f32.results.toList (Tryz.f32.body.getD .skip) := ⟨Tryz.f32, Tryz.func32, rfl, rfl, by simp, by decide⟩
theorem Zeq_conv_To32 (a : Nat) (post : Int × Unit → Prop) : fnEval Zx_conv_To32 nHn Tryz.f32.ntmps Tryz.f32.results.toList (Tryz.f32.body.getD .skip) [.flt .f64] [.snap (.int .u32)] (a, ()) post = Fx_conv_To32  a post := by kernel_rfl
theorem Zh_conv_To32 : Zq_conv_To32.holds Tryz.prog ZG 32 :=
  detP Zx_conv_To32_ok Zmixed nHn Zat_conv_To32 (F := fun x post => Fx_conv_To32  x.1 post) (fun x post => Zeq_conv_To32 x.1 post) fun x h _ => Lx_conv_To32  x.1 h
def Zx_conv_near : Cx := ⟨tabOf Ztab, conOf [(143, Zq_math_Floor)], ZG⟩
theorem Zx_conv_near_ok : CxOk Tryz.prog Zx_conv_near := ⟨tabB_sound Ztab_ok, conOf_sound ⟨Zh_math_Floor, trivial⟩⟩
theorem Zat_conv_near : FnAt Tryz.prog 109 Tryz.f109.ntmps Tryz.f109.results.toList (Tryz.f109.body.getD .skip) := ⟨Tryz.f109, Tryz.func109, rfl, rfl, by simp, by decide⟩
theorem Zeq_conv_near (a : Nat) (post : Int × Unit → Prop) : fnEval Zx_conv_near nHn Tryz.f109.ntmps Tryz.f109.results.toList (Tryz.f109.body.getD .skip) [.flt .f64] [.snap (.int .u64)] (a, ()) post = Fx_conv_near  a post := by kernel_rfl
theorem Zh_conv_near : Zq_conv_near.holds Tryz.prog ZG 109 :=
  detP Zx_conv_near_ok Zmixed nHn Zat_conv_near (F := fun x post => Fx_conv_near  x.1 post) (fun x post => Zeq_conv_near x.1 post) fun x h _ => Lx_conv_near  x.1 h
def Zx_conv_Round : Cx := ⟨tabOf Ztab, conOf [(66, Zq_math_Abs), (109, Zq_conv_near)], ZG⟩
theorem Zx_conv_Round_ok : CxOk Tryz.prog Zx_conv_Round := ⟨tabB_sound Ztab_ok, conOf_sound ⟨Zh_math_Abs, Zh_conv_near, trivial⟩⟩
theorem Zat_conv_Round : FnAt Tryz.prog 74 Tryz.f74.ntmps Tryz.f74.results.toList (Tryz.f74.body.getD .skip) := ⟨Tryz.f74, Tryz.func74, rfl, rfl, by simp, by decide⟩
theorem Zeq_conv_Round (a : Nat) (post : Int × Bool × Unit → Prop) : fnEval Zx_conv_Round nHn Tryz.f74.ntmps Tryz.f74.results.toList (Tryz.f74.body.getD .skip) [.flt .f64] [.snap (.int .i64), .snap .bool] (a, ()) post = Fx_conv_Round  a post := by kernel_rfl
theorem Zh_conv_Round : Zq_conv_Round.holds Tryz.prog ZG 74 :=
  detP Zx_conv_Round_ok Zmixed nHn Zat_conv_Round (F := fun x post => Fx_conv_Round  x.1 post) (fun x post => Zeq_conv_Round x.1 post) fun x h _ => Lx_conv_Round  x.1 h
end Go.Lift

/- Contracts of functions, of a seat. Own work. -/
set_option linter.unusedVariables false
set_option linter.unusedSimpArgs false
namespace Go.Lift
open Go.Proofs
def Zx_geom_ratio : Cx := ⟨tabOf Ztab, conOf [], ZG⟩
theorem Zx_geom_ratio_ok : CxOk Tryz.prog Zx_geom_ratio := ⟨tabB_sound Ztab_ok, fun f c h => by cases h⟩
theorem Zat_geom_ratio : FnAt Tryz.prog 133 Tryz.f133.ntmps Tryz.f133.results.toList (Tryz.f133.body.getD .skip) := ⟨Tryz.f133, Tryz.func133, rfl, rfl, by simp, by decide⟩
theorem Zeq_geom_ratio (a : Int) (b : Int) (post : Nat × Unit → Prop) : fnEval Zx_geom_ratio nHn Tryz.f133.ntmps Tryz.f133.results.toList (Tryz.f133.body.getD .skip) [.int .i64, .int .i64] [.snap (.flt .f64)] (a, b, ()) post = Fx_geom_ratio  a b post := by kernel_rfl
theorem Zh_geom_ratio : Zq_geom_ratio.holds Tryz.prog ZG 133 :=
  detP Zx_geom_ratio_ok Zmixed nHn Zat_geom_ratio (F := fun x post => Fx_geom_ratio  x.1 x.2.1 post) (fun x post => Zeq_geom_ratio x.1 x.2.1 post) fun x h _ => Lx_geom_ratio  x.1 x.2.1 h
def Zx_geom_point : Cx := ⟨tabOf Ztab, conOf [(105, Zq_bits_Canon), (153, Zq_vec_Unit)], ZG⟩
theorem Zx_geom_point_ok : CxOk Tryz.prog Zx_geom_point := ⟨tabB_sound Ztab_ok, conOf_sound ⟨Zh_bits_Canon, Zh_vec_Unit, trivial⟩⟩
theorem Zat_geom_point : FnAt Tryz.prog 132 Tryz.f132.ntmps Tryz.f132.results.toList (Tryz.f132.body.getD .skip) := ⟨Tryz.f132, Tryz.func132, rfl, rfl, by simp, by decide⟩
theorem Zeq_geom_point (f : Int) (s : Nat) (t : Nat) (post : (Nat × Nat × Nat) × Unit → Prop) : fnEval Zx_geom_point Zhn_geom_point Tryz.f132.ntmps Tryz.f132.results.toList (Tryz.f132.body.getD .skip) [.int .i64, .flt .f64, .flt .f64] [.snap kVec] (f, s, t, ()) post = Fx_geom_point 102 165 f s t post := by kernel_rfl
theorem Zh_geom_point : Zq_geom_point.holds Tryz.prog ZG 132 :=
  detP Zx_geom_point_ok Zmixed Zhn_geom_point Zat_geom_point (F := fun x post => Fx_geom_point 102 165 x.1 x.2.1 x.2.2.1 post) (fun x post => Zeq_geom_point x.1 x.2.1 x.2.2.1 post) fun x h _ => Lx_geom_point 102 165 x.1 x.2.1 x.2.2.1 h
def Zx_geom_Corner : Cx := ⟨tabOf Ztab, conOf [(58, Zq_cube_Cells), (133, Zq_geom_ratio), (132, Zq_geom_point)], ZG⟩
theorem Zx_geom_Corner_ok : CxOk Tryz.prog Zx_geom_Corner := ⟨tabB_sound Ztab_ok, conOf_sound ⟨Zh_cube_Cells, Zh_geom_ratio, Zh_geom_point, trivial⟩⟩
theorem Zat_geom_Corner : FnAt Tryz.prog 104 Tryz.f104.ntmps Tryz.f104.results.toList (Tryz.f104.body.getD .skip) := ⟨Tryz.f104, Tryz.func104, rfl, rfl, by simp, by decide⟩
theorem Zeq_geom_Corner (n : Int) (f : Int) (i : Int) (j : Int) (post : (Nat × Nat × Nat) × Bool × Unit → Prop) : fnEval Zx_geom_Corner nHn Tryz.f104.ntmps Tryz.f104.results.toList (Tryz.f104.body.getD .skip) [.int .i64, .int .i64, .int .i64, .int .i64] [.snap kVec, .snap .bool] (n, f, i, j, ()) post = Fx_geom_Corner  n f i j post := by kernel_rfl
theorem Zh_geom_Corner : Zq_geom_Corner.holds Tryz.prog ZG 104 :=
  detP Zx_geom_Corner_ok Zmixed nHn Zat_geom_Corner (F := fun x post => Fx_geom_Corner  x.1 x.2.1 x.2.2.1 x.2.2.2.1 post) (fun x post => Zeq_geom_Corner x.1 x.2.1 x.2.2.1 x.2.2.2.1 post) fun x h _ => Lx_geom_Corner  x.1 x.2.1 x.2.2.1 x.2.2.2.1 h
def Zx_geom_corners : Cx := ⟨tabOf Ztab, conOf [(103, Zq_cube_Place), (104, Zq_geom_Corner)], ZG⟩
theorem Zx_geom_corners_ok : CxOk Tryz.prog Zx_geom_corners := ⟨tabB_sound Ztab_ok, conOf_sound ⟨Zh_cube_Place, Zh_geom_Corner, trivial⟩⟩
theorem Zat_geom_corners : FnAt Tryz.prog 70 Tryz.f70.ntmps Tryz.f70.results.toList (Tryz.f70.body.getD .skip) := ⟨Tryz.f70, Tryz.func70, rfl, rfl, by simp, by decide⟩
theorem Zeq_geom_corners (n : Int) (c : Int) (post : (List (Nat × Nat × Nat)) × Bool × Unit → Prop) : fnEval Zx_geom_corners Zhn_geom_corners Tryz.f70.ntmps Tryz.f70.results.toList (Tryz.f70.body.getD .skip) [.int .i64, .int .i64] [.snap (.arr 4 kVec), .snap .bool] (n, c, ()) post = Fx_geom_corners  n c post := by kernel_rfl
theorem Zh_geom_corners : Zq_geom_corners.holds Tryz.prog ZG 70 :=
  detP Zx_geom_corners_ok Zmixed Zhn_geom_corners Zat_geom_corners (F := fun x post => Fx_geom_corners  x.1 x.2.1 post) (fun x post => Zeq_geom_corners x.1 x.2.1 post) fun x h _ => Lx_geom_corners  x.1 x.2.1 h
def Zx_geom_Area : Cx := ⟨tabOf Ztab, conOf [(70, Zq_geom_corners), (73, Zq_vec_Minus), (72, Zq_vec_Cross), (71, Zq_vec_Length), (74, Zq_conv_Round)], ZG⟩
theorem Zx_geom_Area_ok : CxOk Tryz.prog Zx_geom_Area := ⟨tabB_sound Ztab_ok, conOf_sound ⟨Zh_geom_corners, Zh_vec_Minus, Zh_vec_Cross, Zh_vec_Length, Zh_conv_Round, trivial⟩⟩
theorem Zat_geom_Area : FnAt Tryz.prog 34 Tryz.f34.ntmps Tryz.f34.results.toList (Tryz.f34.body.getD .skip) := ⟨Tryz.f34, Tryz.func34, rfl, rfl, by simp, by decide⟩
theorem Zeq_geom_Area (n : Int) (c : Int) (post : Int × Unit → Prop) : fnEval Zx_geom_Area nHn Tryz.f34.ntmps Tryz.f34.results.toList (Tryz.f34.body.getD .skip) [.int .i64, .int .i64] [.snap (.int .i64)] (n, c, ()) post = Fx_geom_Area  n c post := by kernel_rfl
theorem Zh_geom_Area : Zq_geom_Area.holds Tryz.prog ZG 34 :=
  detP Zx_geom_Area_ok Zmixed nHn Zat_geom_Area (F := fun x post => Fx_geom_Area  x.1 x.2.1 post) (fun x post => Zeq_geom_Area x.1 x.2.1 post) fun x h _ => Lx_geom_Area  x.1 x.2.1 h
end Go.Lift

/- Contracts of functions, of a seat. Own work. -/
set_option linter.unusedVariables false
set_option linter.unusedSimpArgs false
namespace Go.Lift
open Go.Proofs
def Zx_tile_root : Cx := ⟨tabOf Ztab, conOf [], ZG⟩
theorem Zx_tile_root_ok : CxOk Tryz.prog Zx_tile_root := ⟨tabB_sound Ztab_ok, fun f c h => by cases h⟩
theorem Zat_tile_root : FnAt Tryz.prog 62 Tryz.f62.ntmps Tryz.f62.results.toList (Tryz.f62.body.getD .skip) := ⟨Tryz.f62, Tryz.func62, rfl, rfl, by simp, by decide⟩
theorem Zeq_tile_root (a : Int) (post : Int × Unit → Prop) : fnEval Zx_tile_root Zhn_tile_root Tryz.f62.ntmps Tryz.f62.results.toList (Tryz.f62.body.getD .skip) [.int .i64] [.snap (.int .i64)] (a, ()) post = Fx_tile_root  a post := by kernel_rfl
theorem Zh_tile_root : Zq_tile_root.holds Tryz.prog ZG 62 :=
  detP Zx_tile_root_ok Zmixed Zhn_tile_root Zat_tile_root (F := fun x post => Fx_tile_root  x.1 post) (fun x post => Zeq_tile_root x.1 post) fun x h _ => Lx_tile_root  x.1 h
def Zx_tile_bounds : Cx := ⟨tabOf Ztab, conOf [], ZG⟩
theorem Zx_tile_bounds_ok : CxOk Tryz.prog Zx_tile_bounds := ⟨tabB_sound Ztab_ok, fun f c h => by cases h⟩
theorem Zat_tile_bounds : FnAt Tryz.prog 35 Tryz.f35.ntmps Tryz.f35.results.toList (Tryz.f35.body.getD .skip) := ⟨Tryz.f35, Tryz.func35, rfl, rfl, by simp, by decide⟩
theorem Zeq_tile_bounds (a : List Int) (post : Int × Int × Unit → Prop) : fnEval Zx_tile_bounds Zhn_tile_bounds Tryz.f35.ntmps Tryz.f35.results.toList (Tryz.f35.body.getD .skip) [.slice (.int .u32)] [.snap (.int .u32), .snap (.int .u32)] (a, ()) post = Fx_tile_bounds  a post := by kernel_rfl
theorem Zh_tile_bounds : Zq_tile_bounds.holds Tryz.prog ZG 35 :=
  detP Zx_tile_bounds_ok Zmixed Zhn_tile_bounds Zat_tile_bounds (F := fun x post => Fx_tile_bounds  x.1 post) (fun x post => Zeq_tile_bounds x.1 post) fun x h w => Lx_tile_bounds  x.1 h w
def Zx_tile_good : Cx := ⟨tabOf Ztab, conOf [(35, Zq_tile_bounds)], ZG⟩
theorem Zx_tile_good_ok : CxOk Tryz.prog Zx_tile_good := ⟨tabB_sound Ztab_ok, conOf_sound ⟨Zh_tile_bounds, trivial⟩⟩
theorem Zat_tile_good : FnAt Tryz.prog 63 Tryz.f63.ntmps Tryz.f63.results.toList (Tryz.f63.body.getD .skip) := ⟨Tryz.f63, Tryz.func63, rfl, rfl, by simp, by decide⟩
theorem Zeq_tile_good (a : Int × Int × Int × List Int) (post : Bool × Unit → Prop) : fnEval Zx_tile_good Zhn_tile_good Tryz.f63.ntmps Tryz.f63.results.toList (Tryz.f63.body.getD .skip) [kTile] [.snap .bool] (a, ()) post = Fx_tile_good 35 a post := by kernel_rfl
theorem Zh_tile_good : Zq_tile_good.holds Tryz.prog ZG 63 :=
  detP Zx_tile_good_ok Zmixed Zhn_tile_good Zat_tile_good (F := fun x post => Fx_tile_good 35 x.1 post) (fun x post => Zeq_tile_good x.1 post) fun x h w => Lx_tile_good 35 x.1 h w
def Zx_tile_get : Cx := ⟨tabOf Ztab, conOf [], ZG⟩
theorem Zx_tile_get_ok : CxOk Tryz.prog Zx_tile_get := ⟨tabB_sound Ztab_ok, fun f c h => by cases h⟩
theorem Zat_tile_get : FnAt Tryz.prog 65 Tryz.f65.ntmps Tryz.f65.results.toList (Tryz.f65.body.getD .skip) := ⟨Tryz.f65, Tryz.func65, rfl, rfl, by simp, by decide⟩
theorem Zeq_tile_get (a : List Int) (post : Int × Unit → Prop) : fnEval Zx_tile_get nHn Tryz.f65.ntmps Tryz.f65.results.toList (Tryz.f65.body.getD .skip) [.slice (.int .u8)] [.snap (.int .u32)] (a, ()) post = Fx_tile_get  a post := by kernel_rfl
theorem Zh_tile_get : Zq_tile_get.holds Tryz.prog ZG 65 :=
  detP Zx_tile_get_ok Zmixed nHn Zat_tile_get (F := fun x post => Fx_tile_get  x.1 post) (fun x post => Zeq_tile_get x.1 post) fun x h _ => Lx_tile_get  x.1 h
def Zx_tile_Encode : Cx := ⟨tabOf Ztab, conOf [(62, Zq_tile_root), (63, Zq_tile_good)], ZG⟩
theorem Zx_tile_Encode_ok : CxOk Tryz.prog Zx_tile_Encode := ⟨tabB_sound Ztab_ok, conOf_sound ⟨Zh_tile_root, Zh_tile_good, trivial⟩⟩
theorem Zat_tile_Encode : FnAt Tryz.prog 29 Tryz.f29.ntmps Tryz.f29.results.toList (Tryz.f29.body.getD .skip) := ⟨Tryz.f29, Tryz.func29, rfl, rfl, by simp, by decide⟩
theorem Zeq_tile_Encode (a : Int × Int × Int × List Int) (post : (List Int) × Int × Unit → Prop) : fnEvalI Zx_tile_Encode Zhn_tile_Encode (callLvl Zx_tile_Encode Zfns_put 6) Tryz.f29.ntmps Tryz.f29.results.toList (Tryz.f29.body.getD .skip) [kTile] [.own 5 (.int .u8), .snap (.int .i64)] (a, ()) post = Fx_tile_Encode 35 5 a post := by kernel_rfl
theorem Zh_tile_Encode : Zq_tile_Encode.holds Tryz.prog ZG 29 :=
  detPI Zx_tile_Encode_ok Zmixed Zhn_tile_Encode (callLvl_ok Zx_tile_Encode_ok Zmixed Zfns_put_ok 6) Zat_tile_Encode (F := fun x post => Fx_tile_Encode 35 5 x.1 post) (fun x post => Zeq_tile_Encode x.1 post) fun x h w => Lx_tile_Encode 35 5 x.1 h w
def Zx_tile_Decode : Cx := ⟨tabOf Ztab, conOf [(65, Zq_tile_get), (63, Zq_tile_good)], ZG⟩
theorem Zx_tile_Decode_ok : CxOk Tryz.prog Zx_tile_Decode := ⟨tabB_sound Ztab_ok, conOf_sound ⟨Zh_tile_get, Zh_tile_good, trivial⟩⟩
theorem Zat_tile_Decode : FnAt Tryz.prog 31 Tryz.f31.ntmps Tryz.f31.results.toList (Tryz.f31.body.getD .skip) := ⟨Tryz.f31, Tryz.func31, rfl, rfl, by simp, by decide⟩
theorem Zeq_tile_Decode (b : List Int) (post : (Int × Int × Int × List Int) × Int × Unit → Prop) : fnEval Zx_tile_Decode Zhn_tile_Decode Tryz.f31.ntmps Tryz.f31.results.toList (Tryz.f31.body.getD .skip) [.slice (.int .u8)] [.snap kTile, .snap (.int .i64)] (b, ()) post = Fx_tile_Decode 35 32 b post := by kernel_rfl
theorem Zh_tile_Decode : Zq_tile_Decode.holds Tryz.prog ZG 31 :=
  detP Zx_tile_Decode_ok Zmixed Zhn_tile_Decode Zat_tile_Decode (F := fun x post => Fx_tile_Decode 35 32 x.1 post) (fun x post => Zeq_tile_Decode x.1 post) fun x h w => Lx_tile_Decode 35 32 x.1 h w
def Zx_tile_Tiles : Cx := ⟨tabOf Ztab, conOf [(24, Zq_state_Check), (34, Zq_geom_Area), (33, Zq_level_Depth), (32, Zq_conv_To32), (35, Zq_tile_bounds)], ZG⟩
theorem Zx_tile_Tiles_ok : CxOk Tryz.prog Zx_tile_Tiles := ⟨tabB_sound Ztab_ok, conOf_sound ⟨Zh_state_Check, Zh_geom_Area, Zh_level_Depth, Zh_conv_To32, Zh_tile_bounds, trivial⟩⟩
theorem Zat_tile_Tiles : FnAt Tryz.prog 13 Tryz.f13.ntmps Tryz.f13.results.toList (Tryz.f13.body.getD .skip) := ⟨Tryz.f13, Tryz.func13, rfl, rfl, by simp, by decide⟩
theorem Zeq_tile_Tiles (n : Int) (s : (List Nat) × (List Int) × (List Int) × (List Nat) × Int × Int) (post : (List (Int × Int × Int × List Int)) × Int × Unit → Prop) : fnEval Zx_tile_Tiles Zhn_tile_Tiles Tryz.f13.ntmps Tryz.f13.results.toList (Tryz.f13.body.getD .skip) [.int .i64, kSea] [.snap (.slice kTile), .snap (.int .i64)] (n, s, ()) post = Fx_tile_Tiles 25 35 32 n s post := by kernel_rfl
theorem Zh_tile_Tiles : Zq_tile_Tiles.holds Tryz.prog ZG 13 :=
  detP Zx_tile_Tiles_ok Zmixed Zhn_tile_Tiles Zat_tile_Tiles (F := fun x post => Fx_tile_Tiles 25 35 32 x.1 x.2.1 post) (fun x post => Zeq_tile_Tiles x.1 x.2.1 post) fun x h w => Lx_tile_Tiles 25 35 32 x.1 x.2.1 h w
end Go.Lift

/- Contracts of functions, of a seat. Own work. -/
set_option linter.unusedVariables false
set_option linter.unusedSimpArgs false
namespace Go.Lift
open Go.Proofs
def Zx_law24_same : Cx := ⟨tabOf Ztab, conOf [], ZG⟩
theorem Zx_law24_same_ok : CxOk Tryz.prog Zx_law24_same := ⟨tabB_sound Ztab_ok, fun f c h => by cases h⟩
theorem Zat_law24_same : FnAt Tryz.prog 15 Tryz.f15.ntmps Tryz.f15.results.toList (Tryz.f15.body.getD .skip) := ⟨Tryz.f15, Tryz.func15, rfl, rfl, by simp, by decide⟩
theorem Zeq_law24_same (a : Int × Int × Int × List Int) (b : Int × Int × Int × List Int) (post : Bool × Unit → Prop) : fnEval Zx_law24_same Zhn_law24_same Tryz.f15.ntmps Tryz.f15.results.toList (Tryz.f15.body.getD .skip) [kTile, kTile] [.snap .bool] (a, b, ()) post = Fx_law24_same 35 a b post := by kernel_rfl
theorem Zh_law24_same : Zq_law24_same.holds Tryz.prog ZG 15 :=
  detP Zx_law24_same_ok Zmixed Zhn_law24_same Zat_law24_same (F := fun x post => Fx_law24_same 35 x.1 x.2.1 post) (fun x post => Zeq_law24_same x.1 x.2.1 post) fun x _ w => Lx_law24_same 35 x.1 x.2.1 w
def Zx_law24_four : Cx := ⟨tabOf Ztab, conOf [], ZG⟩
theorem Zx_law24_four_ok : CxOk Tryz.prog Zx_law24_four := ⟨tabB_sound Ztab_ok, fun f c h => by cases h⟩
theorem Zat_law24_four : FnAt Tryz.prog 30 Tryz.f30.ntmps Tryz.f30.results.toList (Tryz.f30.body.getD .skip) := ⟨Tryz.f30, Tryz.func30, rfl, rfl, by simp, by decide⟩
theorem Zeq_law24_four  (post : (Int × Int × Int × List Int) × Unit → Prop) : fnEval Zx_law24_four nHn Tryz.f30.ntmps Tryz.f30.results.toList (Tryz.f30.body.getD .skip) [] [.snap kTile] (()) post = Fx_law24_four   post := by kernel_rfl
theorem Zh_law24_four : Zq_law24_four.holds Tryz.prog ZG 30 :=
  detP Zx_law24_four_ok Zmixed nHn Zat_law24_four (F := fun x post => Fx_law24_four   post) (fun x post => Zeq_law24_four  post) fun x _ _ => Lx_law24_four  
def Zx_law24_awake : Cx := ⟨tabOf Ztab, conOf [(30, Zq_law24_four), (29, Zq_tile_Encode), (31, Zq_tile_Decode), (13, Zq_tile_Tiles), (15, Zq_law24_same)], ZG⟩
theorem Zx_law24_awake_ok : CxOk Tryz.prog Zx_law24_awake := ⟨tabB_sound Ztab_ok, conOf_sound ⟨Zh_law24_four, Zh_tile_Encode, Zh_tile_Decode, Zh_tile_Tiles, Zh_law24_same, trivial⟩⟩
theorem Zat_law24_awake : FnAt Tryz.prog 12 Tryz.f12.ntmps Tryz.f12.results.toList (Tryz.f12.body.getD .skip) := ⟨Tryz.f12, Tryz.func12, rfl, rfl, by simp, by decide⟩
theorem Zeq_law24_awake  (post : Bool × Unit → Prop) : fnEval Zx_law24_awake nHn Tryz.f12.ntmps Tryz.f12.results.toList (Tryz.f12.body.getD .skip) [] [.snap .bool] (()) post = Fx_law24_awake   post := by kernel_rfl
theorem Zh_law24_awake : Zq_law24_awake.holds Tryz.prog ZG 12 :=
  detP Zx_law24_awake_ok Zmixed nHn Zat_law24_awake (F := fun x post => Fx_law24_awake   post) (fun x post => Zeq_law24_awake  post) fun x _ _ => Lx_law24_awake  
end Go.Lift

/- Own work. -/
set_option linter.unusedVariables false
set_option linter.unusedSimpArgs false
namespace Go.Lift
def Fx_ref24_Tiles := fun (ty25 ty35 : Nat) (n : Int) (s : List Nat × List Int × List Int × List Nat × Int × Int) (post : List (Int × Int × Int × List Int) × Int × Unit → Prop) => ∃
  (h : WCheck n (s.fst, s.snd.fst, s.snd.snd.fst, s.snd.snd.snd.fst, s.snd.snd.snd.snd.fst, s.snd.snd.snd.snd.snd)), ∀ (a : Bool), a = ((checkR n (s.fst, s.snd.fst, s.snd.snd.fst,
  s.snd.snd.snd.fst, s.snd.snd.snd.snd.fst, s.snd.snd.snd.snd.snd)).snd.fst != (0 : Int)) → Br a (post ([], (checkR n (s.fst, s.snd.fst, s.snd.snd.fst, s.snd.snd.snd.fst,
  s.snd.snd.snd.snd.fst, s.snd.snd.snd.snd.snd)).snd.fst, ())) (((0 : Nat) = (0 : Nat) ∧ (0 : Nat) = (0 : Nat)) ∧ HIs [HObj.box Md.rw ty25 [SV.data (K.flt Go.FloatKind.f64).slice
  s.fst, SV.data (K.int IntKind.i64).slice s.snd.fst, SV.data (K.int IntKind.i64).slice s.snd.snd.fst, SV.data (K.flt Go.FloatKind.f64).slice s.snd.snd.snd.fst, SV.val (Go.Value.int
  IntKind.i64 s.snd.snd.snd.snd.fst), SV.val (Go.Value.int IntKind.i64 s.snd.snd.snd.snd.snd)], HObj.dead] [HObj.box Md.rw ty25 [SV.data (K.flt Go.FloatKind.f64).slice s.fst,
  SV.data (K.int IntKind.i64).slice s.snd.fst, SV.data (K.int IntKind.i64).slice s.snd.snd.fst, SV.data (K.flt Go.FloatKind.f64).slice s.snd.snd.snd.fst, SV.val (Go.Value.int
  IntKind.i64 s.snd.snd.snd.snd.fst), SV.val (Go.Value.int IntKind.i64 s.snd.snd.snd.snd.snd)], HObj.dead] ∧ ∃ (I : Int × List (Int × Int × Int × List Int) × Unit → Unit → Prop), ∃
  (μ : Int × List (Int × Int × Int × List Int) × Unit → Unit → Nat), I ((0 : Int), [], ()) () ∧ ∀ (x : Int × List (Int × Int × Int × List Int) × Unit) (y : Unit), I x y → ∀ (a :
  Bool), a = decide (x.fst < (6 : Int)) → Br a (HIs [HObj.box Md.rw ty25 [SV.data (K.flt Go.FloatKind.f64).slice s.fst, SV.data (K.int IntKind.i64).slice s.snd.fst, SV.data (K.int
  IntKind.i64).slice s.snd.snd.fst, SV.data (K.flt Go.FloatKind.f64).slice s.snd.snd.snd.fst, SV.val (Go.Value.int IntKind.i64 s.snd.snd.snd.snd.fst), SV.val (Go.Value.int
  IntKind.i64 s.snd.snd.snd.snd.snd)], HObj.dead, HObj.row Md.rw ty35 ((K.int IntKind.i64).pair ((K.int IntKind.u32).pair ((K.int IntKind.u32).pair (K.int IntKind.u32).slice)))
  x.snd.fst, HObj.box Md.rw ty35 [SV.val (Go.Value.int IntKind.i64 x.fst), SV.val (Go.Value.int IntKind.u32 (0 : Int)), SV.val (Go.Value.int IntKind.u32 (0 : Int)), SV.junk]]
  [HObj.box Md.rw ty25 [SV.data (K.flt Go.FloatKind.f64).slice s.fst, SV.data (K.int IntKind.i64).slice s.snd.fst, SV.data (K.int IntKind.i64).slice s.snd.snd.fst, SV.data (K.flt
  Go.FloatKind.f64).slice s.snd.snd.snd.fst, SV.val (Go.Value.int IntKind.i64 s.snd.snd.snd.snd.fst), SV.val (Go.Value.int IntKind.i64 s.snd.snd.snd.snd.snd)], HObj.dead, HObj.row
  Md.rw ty35 ((K.int IntKind.i64).pair ((K.int IntKind.u32).pair ((K.int IntKind.u32).pair (K.int IntKind.u32).slice))) x.snd.fst, HObj.box Md.rw ty35 [SV.val (Go.Value.int
  IntKind.i64 x.fst), SV.val (Go.Value.int IntKind.u32 (0 : Int)), SV.val (Go.Value.int IntKind.u32 (0 : Int)), SV.junk]] ∧ ∃ (I_1 : Int × List Int × Unit → Unit → Prop), ∃ (μ_1 :
  Int × List Int × Unit → Unit → Nat), I_1 (IntKind.i64.wrap (IntKind.i64.wrap (x.fst * n) * n), [], ()) () ∧ ∀ (x_3 : Int × List Int × Unit) (y_1 : Unit), I_1 x_3 y_1 → ∀ (a :
  Bool), a = decide (x_3.fst < IntKind.i64.wrap (IntKind.i64.wrap (IntKind.i64.wrap (x.fst + (1 : Int)) * n) * n)) → Br a (∃ (h : (0 : Int) ≤ x_3.fst ∧ x_3.fst < (↑s.snd.fst.length
  : Int)), ∃ (h : II n x_3.fst), ∃ (h : II (s.snd.fst.getD x_3.fst.toNat (0 : Int)) (areaR n x_3.fst).fst), ∃ (h : W64 (depthR (s.snd.fst.getD x_3.fst.toNat (0 : Int)) (areaR n
  x_3.fst).fst).fst), ∃ (h : x_3.snd.fst.length = x_3.snd.fst.length ∧ (x_3.snd.fst.length + (1 : Nat)) * (4 : Nat) ≤ (140737488355328 : Nat)), ((0 : Nat) = (0 : Nat) ∧
  x_3.snd.fst.length + (1 : Nat) = (x_3.snd.fst ++ [(to32R (depthR (s.snd.fst.getD x_3.fst.toNat (0 : Int)) (areaR n x_3.fst).fst).fst).fst]).length) ∧ HIs [HObj.box Md.rw ty25
  [SV.data (K.flt Go.FloatKind.f64).slice s.fst, SV.data (K.int IntKind.i64).slice s.snd.fst, SV.data (K.int IntKind.i64).slice s.snd.snd.fst, SV.data (K.flt Go.FloatKind.f64).slice
  s.snd.snd.snd.fst, SV.val (Go.Value.int IntKind.i64 s.snd.snd.snd.snd.fst), SV.val (Go.Value.int IntKind.i64 s.snd.snd.snd.snd.snd)], HObj.dead, HObj.row Md.rw ty35 ((K.int
  IntKind.i64).pair ((K.int IntKind.u32).pair ((K.int IntKind.u32).pair (K.int IntKind.u32).slice))) x.snd.fst, HObj.box Md.rw ty35 [SV.val (Go.Value.int IntKind.i64 x.fst), SV.val
  (Go.Value.int IntKind.u32 (0 : Int)), SV.val (Go.Value.int IntKind.u32 (0 : Int)), SV.junk]] [HObj.box Md.rw ty25 [SV.data (K.flt Go.FloatKind.f64).slice s.fst, SV.data (K.int
  IntKind.i64).slice s.snd.fst, SV.data (K.int IntKind.i64).slice s.snd.snd.fst, SV.data (K.flt Go.FloatKind.f64).slice s.snd.snd.snd.fst, SV.val (Go.Value.int IntKind.i64
  s.snd.snd.snd.snd.fst), SV.val (Go.Value.int IntKind.i64 s.snd.snd.snd.snd.snd)], HObj.dead, HObj.row Md.rw ty35 ((K.int IntKind.i64).pair ((K.int IntKind.u32).pair ((K.int
  IntKind.u32).pair (K.int IntKind.u32).slice))) x.snd.fst, HObj.box Md.rw ty35 [SV.val (Go.Value.int IntKind.i64 x.fst), SV.val (Go.Value.int IntKind.u32 (0 : Int)), SV.val
  (Go.Value.int IntKind.u32 (0 : Int)), SV.junk]] ∧ I_1 (IntKind.i64.wrap (x_3.fst + (1 : Int)), x_3.snd.fst ++ [(to32R (depthR (s.snd.fst.getD x_3.fst.toNat (0 : Int)) (areaR n
  x_3.fst).fst).fst).fst], ()) () ∧ μ_1 (IntKind.i64.wrap (x_3.fst + (1 : Int)), x_3.snd.fst ++ [(to32R (depthR (s.snd.fst.getD x_3.fst.toNat (0 : Int)) (areaR n
  x_3.fst).fst).fst).fst], ()) () < μ_1 x_3 y_1) (∃ (h : NE (List.take x_3.snd.fst.length (List.drop (0 : Nat) x_3.snd.fst))), ∃ (h : x.snd.fst.length = x.snd.fst.length ∧
  (x.snd.fst.length + (1 : Nat)) * (40 : Nat) ≤ (140737488355328 : Nat)), ((0 : Nat) = (0 : Nat) ∧ x.snd.fst.length + (1 : Nat) = (x.snd.fst ++ [(x.fst, (endsR (List.take
  x_3.snd.fst.length (List.drop (0 : Nat) x_3.snd.fst))).fst, (endsR (List.take x_3.snd.fst.length (List.drop (0 : Nat) x_3.snd.fst))).snd.fst, List.take x_3.snd.fst.length
  (List.drop (0 : Nat) x_3.snd.fst))]).length) ∧ HIs [HObj.box Md.rw ty25 [SV.data (K.flt Go.FloatKind.f64).slice s.fst, SV.data (K.int IntKind.i64).slice s.snd.fst, SV.data (K.int
  IntKind.i64).slice s.snd.snd.fst, SV.data (K.flt Go.FloatKind.f64).slice s.snd.snd.snd.fst, SV.val (Go.Value.int IntKind.i64 s.snd.snd.snd.snd.fst), SV.val (Go.Value.int
  IntKind.i64 s.snd.snd.snd.snd.snd)], HObj.dead] [HObj.box Md.rw ty25 [SV.data (K.flt Go.FloatKind.f64).slice s.fst, SV.data (K.int IntKind.i64).slice s.snd.fst, SV.data (K.int
  IntKind.i64).slice s.snd.snd.fst, SV.data (K.flt Go.FloatKind.f64).slice s.snd.snd.snd.fst, SV.val (Go.Value.int IntKind.i64 s.snd.snd.snd.snd.fst), SV.val (Go.Value.int
  IntKind.i64 s.snd.snd.snd.snd.snd)], HObj.dead] ∧ I (IntKind.i64.wrap (x.fst + (1 : Int)), x.snd.fst ++ [(x.fst, (endsR (List.take x_3.snd.fst.length (List.drop (0 : Nat)
  x_3.snd.fst))).fst, (endsR (List.take x_3.snd.fst.length (List.drop (0 : Nat) x_3.snd.fst))).snd.fst, List.take x_3.snd.fst.length (List.drop (0 : Nat) x_3.snd.fst))], ()) () ∧ μ
  (IntKind.i64.wrap (x.fst + (1 : Int)), x.snd.fst ++ [(x.fst, (endsR (List.take x_3.snd.fst.length (List.drop (0 : Nat) x_3.snd.fst))).fst, (endsR (List.take x_3.snd.fst.length
  (List.drop (0 : Nat) x_3.snd.fst))).snd.fst, List.take x_3.snd.fst.length (List.drop (0 : Nat) x_3.snd.fst))], ()) () < μ x y)) (post (List.take x.snd.fst.length (List.drop (0 :
  Nat) x.snd.fst), (0 : Int), ())))
theorem Lx_ref24_Tiles (ty0 ty1 : Nat) (n : Int) (s : (List Nat) × (List Int) × (List Int) × (List Nat) × Int × Int) (h : WCheck n s) (w : KS.wf [.int .i64, kSea] (n, s, ())) : Fx_ref24_Tiles ty0 ty1 n s (fun r => r = tilesR n s) := by
  obtain ⟨hn, hs⟩ := h
  refine ⟨⟨hn, hs⟩, ?_⟩
  rintro _ rfl
  refine Br.intro (fun e => ?_) fun e => ?_
  · have e : (checkI n s).2 ≠ 0 := bne_int.1 e
    show _ = ((tilesT n s).1, (tilesT n s).2, ())
    unfold tilesT; rw [if_pos e]; rfl
  have e : (checkI n s).2 = 0 := bne_int.2 e
  obtain ⟨hg, -, hwl, -, -⟩ := check_ok e
  obtain ⟨n1, n2⟩ := goodC_iff.1 hg
  have sq := sq_bd n1 n2
  obtain ⟨m, hm⟩ : ∃ m : Nat, n * n = m := ⟨(n * n).toNat, by omega⟩
  rw [cells_good hg] at hwl
  rw [hm] at sq hwl
  have wF : ∀ g : Nat, g ≤ 6 → IntKind.i64.wrap (IntKind.i64.wrap ((g : Int) * n) * n) = ((g * m : Nat) : Int) := by
    intro g hg6
    have a1 : 0 ≤ (g : Int) * n := Int.mul_nonneg (by omega) (by omega)
    have a2 : (g : Int) * n ≤ 6 * n := Int.mul_le_mul_of_nonneg_right (by omega) (by omega)
    have a3 : g * m ≤ 6 * m := Nat.mul_le_mul_right m hg6
    rw [wi (x := (g : Int) * n) ⟨by omega, by omega⟩, Int.mul_assoc, hm, ← Int.natCast_mul]
    exact wi ⟨by omega, by omega⟩
  refine ⟨⟨rfl, rfl⟩, rfl, fun x _ => ∃ f : Nat, x.1 = f ∧ f ≤ 6 ∧ x.2.1 = (List.range f).map (tileF n s), fun x _ => 6 - x.1.toNat, ⟨0, rfl, by omega, rfl⟩, ?_⟩
  rintro ⟨_, _, ⟨⟩⟩ ⟨⟩ ⟨f, rfl, hf, rfl⟩
  dsimp only
  rintro _ rfl
  refine Br.intro (fun e1 => ?_) fun e1 => ?_
  · have e1 : f < 6 := by have e1 : (f : Int) < 6 := of_decide_eq_true e1; omega
    have fm : f * m ≤ 5 * m := Nat.mul_le_mul_right m (by omega)
    have wf1 : IntKind.i64.wrap ((f : Int) + 1) = ((f + 1 : Nat) : Int) := wi ⟨by omega, by omega⟩
    have fs : (f + 1) * m = f * m + m := Nat.succ_mul f m
    rw [wF f (by omega), wf1, wF (f + 1) (by omega), fs]
    refine ⟨rfl, fun x _ => ∃ k : Nat, x.1 = ((f * m + k : Nat) : Int) ∧ k ≤ m ∧ x.2.1 = (List.range k).map fun k => cellB n s (f * m + k), fun x _ => f * m + m - x.1.toNat, ⟨0, rfl, by omega, rfl⟩, ?_⟩
    rintro ⟨_, _, ⟨⟩⟩ ⟨⟩ ⟨k, rfl, hk, rfl⟩
    dsimp only
    rintro _ rfl
    have hlen : ((List.range k).map fun k => cellB n s (f * m + k)).length = k := by rw [List.length_map, List.length_range]
    have hlf : ((List.range f).map (tileF n s)).length = f := by rw [List.length_map, List.length_range]
    refine Br.intro (fun e2 => ?_) fun e2 => ?_
    · have e2 : k < m := by have e2 : ((f * m + k : Nat) : Int) < ((f * m + m : Nat) : Int) := of_decide_eq_true e2; omega
      rw [Int.toNat_natCast, wi_succ (i := f * m + k) (n := 6144) (by omega) (by omega)]
      have hc : f * m + k < s.2.1.length := by omega
      have sx : ((List.range k).map fun k => cellB n s (f * m + k)) ++ [cellB n s (f * m + k)] = (List.range (k + 1)).map fun k => cellB n s (f * m + k) := (range_map_succ _ _).symm
      exact ⟨⟨by omega, by omega⟩, ⟨hn, by omega, by omega⟩, ⟨hs.2.1 _ (getD_mem hc 0), (area_rng _ _).1⟩, depthQ_w _ _, ⟨rfl, by rw [hlen]; omega⟩, ⟨rfl, by rw [List.length_append]; rfl⟩, rfl, ⟨k + 1, rfl, by omega, sx⟩, by omega⟩
    · have e2 : k = m := by have e2 : ¬ ((f * m + k : Nat) : Int) < ((f * m + m : Nat) : Int) := of_decide_eq_false e2; omega
      subst e2
      have hL : List.take ((List.range k).map fun j => cellB n s (f * k + j)).length (List.drop 0 ((List.range k).map fun j => cellB n s (f * k + j))) = (List.range k).map fun j => cellB n s (f * k + j) := by
        rw [List.drop_zero, List.take_length]
      rw [hL]
      refine ⟨by show 0 < List.length _; rw [hlen]; omega, ⟨rfl, by rw [hlf]; omega⟩, ⟨rfl, by rw [List.length_append]; rfl⟩, rfl, ⟨f + 1, rfl, by omega, ?_⟩, by rw [Int.toNat_natCast, Int.toNat_natCast]; omega⟩
      show (List.range f).map (tileF n s) ++ [_] = _
      rw [range_map_succ]
      exact congrArg (fun z => (List.range f).map (tileF n s) ++ [z]) (tileF_eq hm rfl)
  · have e1 : f = 6 := by have e1 : ¬ (f : Int) < 6 := of_decide_eq_false e1; omega
    subst e1
    show _ = ((tilesT n s).1, (tilesT n s).2, ())
    unfold tilesT; rw [if_neg (by rw [e]; decide)]; rfl
end Go.Lift

/- Own work. -/
set_option linter.unusedVariables false
set_option linter.unusedSimpArgs false
namespace Go.Lift
def Fx_ref20_between := fun (a b c : Nat) (post : Bool × Unit → Prop) => ∀ (a_1 : Bool), a_1 = fcmp Go.BinOp.geq (Go.FloatKind.f64.format.order a b) → Br a_1 (∀ (a_2 : Bool), a_2 =
  fcmp Go.BinOp.leq (Go.FloatKind.f64.format.order a c) → Br a_2 (∃ (h : True), ∀ (a_3 : Bool), a_3 = ((bitsR a).fst != (9223372036854775808 : Int)) → post (a_3, ())) (post
  (Bool.false, ()))) (post (Bool.false, ()))
theorem Lx_ref20_between (a : Nat) (b : Nat) (c : Nat) (h : W3 a b c) : Fx_ref20_between  a b c (fun r => r = betweenR a b c) := by
  have nz : ∀ x : Nat, ((x : Int) != (9223372036854775808 : Int)) = decide (x ≠ 9223372036854775808) := by
    intro x
    show (!((x : Int) == ((9223372036854775808 : Nat) : Int))) = _
    rw [beq_nat]
    by_cases q : x = 9223372036854775808
    · rw [decide_eq_true q, decide_eq_false (by simpa using q)]; rfl
    · rw [decide_eq_false q, decide_eq_true q]; rfl
  rintro _ rfl
  refine Br.intro (fun e => ?_) fun e => ?_
  · rintro _ rfl
    refine Br.intro (fun f => ?_) fun f => ?_
    · refine ⟨trivial, ?_⟩
      rintro _ rfl
      refine congrArg r1 ?_
      show ((a : Int) != (9223372036854775808 : Int)) = betweenF a b c
      unfold betweenF
      rw [nz, show fcmp .geq (Ieee.double.order a b) = true from e, show fcmp .leq (Ieee.double.order a c) = true from f]; rfl
    · exact congrArg r1 (by unfold betweenF; rw [show fcmp .leq (Ieee.double.order a c) = false from f, Bool.and_false]; rfl)
  · exact congrArg r1 (by unfold betweenF; rw [show fcmp .geq (Ieee.double.order a b) = false from e]; rfl)
def Fx_ref20_floats := fun (a : List Nat) (b : Nat) (post : Int × Unit → Prop) => HIs [] [] ∧ ∃ (I : Int × Unit → Unit → Prop), ∃ (μ : Int × Unit → Unit → Nat), I ((0 : Int), ()) ()
  ∧ ∀ (x : Int × Unit) (y : Unit), I x y → ∀ (a_1 : Bool), a_1 = decide (x.fst < (↑a.length : Int)) → Br a_1 (∃ (h : (0 : Int) ≤ x.fst ∧ x.fst < (↑a.length : Int)), ∃ (h : W3
  (a.getD x.fst.toNat (0 : Nat)) (Go.Op.negFloat Go.FloatKind.f64 b) b), ∀ (a_2 : Bool), a_2 = (betweenR (a.getD x.fst.toNat (0 : Nat)) (Go.Op.negFloat Go.FloatKind.f64 b) b).fst →
  Br (!a_2) (post (x.fst, ())) (HIs [] [] ∧ I (IntKind.i64.wrap (x.fst + (1 : Int)), ()) () ∧ μ (IntKind.i64.wrap (x.fst + (1 : Int)), ()) () < μ x y)) (post ((-1 : Int), ()))
theorem Lx_ref20_floats (a : List Nat) (b : Nat) (h : WLF a b) (w : KS.wf [.slice (.flt .f64), .flt .f64] (a, b, ())) : Fx_ref20_floats  a b (fun r => r = floatsR a b) := by
  have hl : a.length ≤ maxN := w.1.1
  unfold maxN at hl
  refine ⟨rfl, fun x _ => ∃ i : Nat, x.1 = i ∧ i ≤ a.length ∧ floatsI a b = firstI (fun x => !betweenF x (negF b) b) i (a.drop i), fun x _ => a.length - x.1.toNat, ⟨0, rfl, by omega, rfl⟩, ?_⟩
  rintro ⟨_, ⟨⟩⟩ _ ⟨i, rfl, hil, hi⟩
  dsimp only
  rintro _ rfl
  refine Br.intro (fun e => ?_) fun e => ?_
  · have e : i < a.length := by have := of_decide_eq_true e; omega
    refine ⟨⟨by omega, by omega⟩, ?_⟩
    rw [Int.toNat_natCast]
    rw [drop_step e 0, firstI_cons] at hi
    refine ⟨⟨h.1 _ (getD_mem e 0), negF_w h.2, h.2⟩, ?_⟩
    rintro _ rfl
    refine Br.intro (fun f => ?_) fun f => ?_
    · refine congrArg r1 ?_
      rw [hi]
      rw [if_pos (show (!betweenF (a.getD i 0) (negF b) b) = true from f)]
    · rw [if_neg (by rw [show (!betweenF (a.getD i 0) (negF b) b) = false from f]; decide)] at hi
      rw [wi_succ e (by omega)]
      exact ⟨rfl, ⟨i + 1, rfl, by omega, hi⟩, by omega⟩
  · have e : ¬ i < a.length := by have := of_decide_eq_false e; omega
    refine congrArg r1 ?_
    rw [hi, List.drop_eq_nil_of_le (by omega)]; rfl
def Fx_ref20_quanta := fun (a : List Int) (b : Int) (post : Int × Unit → Prop) => HIs [] [] ∧ ∃ (I : Int × Int × Unit → Unit → Prop), ∃ (μ : Int × Int × Unit → Unit → Nat), I ((0 :
  Int), b, ()) () ∧ ∀ (x : Int × Int × Unit) (y : Unit), I x y → ∀ (a_1 : Bool), a_1 = decide (x.fst < (↑a.length : Int)) → Br a_1 (∃ (h : (0 : Int) ≤ x.fst ∧ x.fst < (↑a.length :
  Int)), ∀ (a_2 : Bool), a_2 = decide (a.getD x.fst.toNat (0 : Int) < (0 : Int)) → Br a_2 (post (x.fst, ())) (∃ (h : (0 : Int) ≤ x.fst ∧ x.fst < (↑a.length : Int)), ∀ (a_3 : Bool),
  a_3 = decide (a.getD x.fst.toNat (0 : Int) > IntKind.i64.wrap ((4503599627370496 : Int) - x.snd.fst)) → Br a_3 (post (x.fst, ())) (∃ (h : (0 : Int) ≤ x.fst ∧ x.fst < (↑a.length :
  Int)), HIs [] [] ∧ I (IntKind.i64.wrap (x.fst + (1 : Int)), IntKind.i64.wrap (x.snd.fst + a.getD x.fst.toNat (0 : Int)), ()) () ∧ μ (IntKind.i64.wrap (x.fst + (1 : Int)),
  IntKind.i64.wrap (x.snd.fst + a.getD x.fst.toNat (0 : Int)), ()) () < μ x y))) (post ((-1 : Int), ()))
theorem Lx_ref20_quanta (a : List Int) (b : Int) (h : WQuanta a b) (w : KS.wf [.slice (.int .i64), .int .i64] (a, b, ())) : Fx_ref20_quanta  a b (fun r => r = quantaR a b) := by
  have hl : a.length ≤ maxN := w.1.1
  unfold maxN at hl
  obtain ⟨ha, hb0, hb1⟩ := h
  refine ⟨rfl, fun x _ => ∃ i : Nat, x.1 = i ∧ i ≤ a.length ∧ 0 ≤ x.2.1 ∧ x.2.1 ≤ 4503599627370496 ∧ quantaN 0 b a = quantaN i x.2.1 (a.drop i), fun x _ => a.length - x.1.toNat, ⟨0, rfl, by omega, hb0, hb1, rfl⟩, ?_⟩
  rintro ⟨_, s, ⟨⟩⟩ _ ⟨i, rfl, hil, h0, h1, hi⟩
  dsimp only at h0 h1 hi ⊢
  have ws : IntKind.i64.wrap (4503599627370496 - s) = 4503599627370496 - s := wi ⟨by omega, by omega⟩
  rintro _ rfl
  refine Br.intro (fun e => ?_) fun e => ?_
  · have e : i < a.length := by have := of_decide_eq_true e; omega
    refine ⟨⟨by omega, by omega⟩, ?_⟩
    rw [Int.toNat_natCast, ws]
    rw [drop_step e 0, quantaN_cons] at hi
    have hr := ha _ (getD_mem e 0)
    rintro _ rfl
    refine Br.intro (fun f => ?_) fun f => ?_
    · refine congrArg r1 ?_
      rw [hi]
      rw [if_pos (.inl (of_decide_eq_true f))]
    have f := of_decide_eq_false f
    refine ⟨⟨by omega, by omega⟩, ?_⟩
    rintro _ rfl
    refine Br.intro (fun g => ?_) fun g => ?_
    · refine congrArg r1 ?_
      rw [hi]
      rw [if_pos (.inr (of_decide_eq_true g))]
    · have g := of_decide_eq_false g
      rw [if_neg (by omega)] at hi
      rw [wi_succ e (by omega), wi (x := s + a.getD i 0) ⟨by omega, by omega⟩]
      exact ⟨⟨by omega, by omega⟩, rfl, ⟨i + 1, rfl, by omega, by omega, by omega, hi⟩, by omega⟩
  · have e : ¬ i < a.length := by have := of_decide_eq_false e; omega
    refine congrArg r1 ?_
    rw [hi, List.drop_eq_nil_of_le (by omega)]; rfl
def Fx_ref20_Check := fun (n : Int) (s : List Nat × List Int × List Int × List Nat × Int × Int) (post : Int × Int × Unit → Prop) => Br (decide (n < (1 : Int))) (post ((0 : Int), (10
  : Int), ())) (Br (decide (n > (32 : Int))) (post ((0 : Int), (10 : Int), ())) (∃ (h : (0 : Int) ≤ (0 : Int) ∧ (0 : Int) < (↑(4 : Nat) : Int)), Br ([(↑s.fst.length : Int),
  (↑s.snd.fst.length : Int), (↑s.snd.snd.fst.length : Int), IntKind.i64.wrap ((↑s.snd.snd.snd.fst.length : Int) - IntKind.i64.wrap (IntKind.i64.wrap ((6 : Int) * n) * n))].getD ((0
  : Nat) + Int.toNat (0 : Int)) (0 : Int) != IntKind.i64.wrap (IntKind.i64.wrap ((6 : Int) * n) * n)) (post ((0 : Int), (12 : Int), ())) (∃ (h : (0 : Int) ≤ IntKind.i64.wrap ((0 :
  Int) + (1 : Int)) ∧ IntKind.i64.wrap ((0 : Int) + (1 : Int)) < (↑(4 : Nat) : Int)), Br ([(↑s.fst.length : Int), (↑s.snd.fst.length : Int), (↑s.snd.snd.fst.length : Int),
  IntKind.i64.wrap ((↑s.snd.snd.snd.fst.length : Int) - IntKind.i64.wrap (IntKind.i64.wrap ((6 : Int) * n) * n))].getD ((0 : Nat) + (IntKind.i64.wrap ((0 : Int) + (1 : Int))).toNat)
  (0 : Int) != IntKind.i64.wrap (IntKind.i64.wrap ((6 : Int) * n) * n)) (post (IntKind.i64.wrap ((0 : Int) + (1 : Int)), (12 : Int), ())) (∃ (h : (0 : Int) ≤ IntKind.i64.wrap
  (IntKind.i64.wrap ((0 : Int) + (1 : Int)) + (1 : Int)) ∧ IntKind.i64.wrap (IntKind.i64.wrap ((0 : Int) + (1 : Int)) + (1 : Int)) < (↑(4 : Nat) : Int)), Br ([(↑s.fst.length : Int),
  (↑s.snd.fst.length : Int), (↑s.snd.snd.fst.length : Int), IntKind.i64.wrap ((↑s.snd.snd.snd.fst.length : Int) - IntKind.i64.wrap (IntKind.i64.wrap ((6 : Int) * n) * n))].getD ((0
  : Nat) + (IntKind.i64.wrap (IntKind.i64.wrap ((0 : Int) + (1 : Int)) + (1 : Int))).toNat) (0 : Int) != IntKind.i64.wrap (IntKind.i64.wrap ((6 : Int) * n) * n)) (post
  (IntKind.i64.wrap (IntKind.i64.wrap ((0 : Int) + (1 : Int)) + (1 : Int)), (12 : Int), ())) (∃ (h : (0 : Int) ≤ IntKind.i64.wrap (IntKind.i64.wrap (IntKind.i64.wrap ((0 : Int) + (1
  : Int)) + (1 : Int)) + (1 : Int)) ∧ IntKind.i64.wrap (IntKind.i64.wrap (IntKind.i64.wrap ((0 : Int) + (1 : Int)) + (1 : Int)) + (1 : Int)) < (↑(4 : Nat) : Int)), Br
  ([(↑s.fst.length : Int), (↑s.snd.fst.length : Int), (↑s.snd.snd.fst.length : Int), IntKind.i64.wrap ((↑s.snd.snd.snd.fst.length : Int) - IntKind.i64.wrap (IntKind.i64.wrap ((6 :
  Int) * n) * n))].getD ((0 : Nat) + (IntKind.i64.wrap (IntKind.i64.wrap (IntKind.i64.wrap ((0 : Int) + (1 : Int)) + (1 : Int)) + (1 : Int))).toNat) (0 : Int) != IntKind.i64.wrap
  (IntKind.i64.wrap ((6 : Int) * n) * n)) (post (IntKind.i64.wrap (IntKind.i64.wrap (IntKind.i64.wrap ((0 : Int) + (1 : Int)) + (1 : Int)) + (1 : Int)), (12 : Int), ())) (∃ (h : WLF
  s.fst (4697254411347427328 : Nat)), Br (decide ((floatsR s.fst (4697254411347427328 : Nat)).fst ≥ (0 : Int))) (post ((floatsR s.fst (4697254411347427328 : Nat)).fst, (13 : Int),
  ())) (Br (decide (s.snd.snd.snd.snd.fst < (0 : Int))) (post ((0 : Int), (17 : Int), ())) (Br (decide (s.snd.snd.snd.snd.fst > (4503599627370496 : Int))) (post ((0 : Int), (17 :
  Int), ())) (∃ (h : WQuanta s.snd.fst s.snd.snd.snd.snd.fst), Br (decide ((quantaR s.snd.fst s.snd.snd.snd.snd.fst).fst ≥ (0 : Int))) (post ((quantaR s.snd.fst
  s.snd.snd.snd.snd.fst).fst, (14 : Int), ())) (∃ (h : WQuanta s.snd.snd.fst (0 : Int)), Br (decide ((quantaR s.snd.snd.fst (0 : Int)).fst ≥ (0 : Int))) (post ((quantaR
  s.snd.snd.fst (0 : Int)).fst, (15 : Int), ())) (∃ (h : WLF s.snd.snd.snd.fst (4652218415073722368 : Nat)), Br (decide ((floatsR s.snd.snd.snd.fst (4652218415073722368 : Nat)).fst
  ≥ (0 : Int))) (post ((floatsR s.snd.snd.snd.fst (4652218415073722368 : Nat)).fst, (16 : Int), ())) (Br (decide (s.snd.snd.snd.snd.snd < (0 : Int))) (post ((0 : Int), (1 : Int),
  ())) (Br (decide (s.snd.snd.snd.snd.snd > (4611686018427387904 : Int))) (post ((0 : Int), (1 : Int), ())) (post ((0 : Int), (0 : Int), ())))))))))))))))
theorem Lx_ref20_Check (n : Int) (s : (List Nat) × (List Int) × (List Int) × (List Nat) × Int × Int) (h : WCheck n s) (w : KS.wf [.int .i64, kSea] (n, s, ())) : Fx_ref20_Check  n s (fun r => r = checkR n s) := by
  obtain ⟨hn, hb, hw, ht, hs, h4, h5⟩ := h
  have l1 : s.1.length ≤ maxN := w.2.1.1.1
  have l2 : s.2.2.2.1.length ≤ maxN := w.2.1.2.2.2.1.1
  unfold maxN at l1 l2
  obtain ⟨c0, c1⟩ := cells_rng n
  have bad : goodC n = false → ((0 : Int), (10 : Int), ()) = checkR n s := by
    intro q
    show _ = ((checkI n s).1, (checkI n s).2, ())
    unfold checkI; rw [if_pos (cells_bad q)]
  refine Br.intro (fun e => bad (goodC_false.2 (.inl (of_decide_eq_true e)))) fun e => ?_
  have g1 := of_decide_eq_false e
  refine Br.intro (fun e => bad (goodC_false.2 (.inr (of_decide_eq_true e)))) fun e => ?_
  have g2 := of_decide_eq_false e
  have hg : goodC n = true := goodC_iff.2 ⟨by omega, by omega⟩
  have wc0 := cells_wrap hg
  rw [wc0]
  have sq := sq_bd (n := n) (by omega) (by omega)
  have cg := cells_good hg
  have e0 : ¬ cellsI n = 0 := by omega
  have wd : IntKind.i64.wrap ((s.2.2.2.1.length : Int) - cellsI n) = (s.2.2.2.1.length : Int) - cellsI n := wi ⟨by omega, by omega⟩
  rw [wd]
  refine ⟨⟨by decide, by decide⟩, Br.intro (fun e => ?_) fun e => ?_⟩
  · have e : (s.1.length : Int) ≠ cellsI n := bne_int.1 e
    show _ = ((checkI n s).1, (checkI n s).2, ())
    unfold checkI; rw [if_neg e0, if_pos e]
  have e1 : (s.1.length : Int) = cellsI n := bne_int.2 e
  refine ⟨⟨by decide, by decide⟩, Br.intro (fun e => ?_) fun e => ?_⟩
  · have e : (s.2.1.length : Int) ≠ cellsI n := bne_int.1 e
    show _ = ((checkI n s).1, (checkI n s).2, ())
    unfold checkI; rw [if_neg e0, if_neg (by omega), if_pos e]; rfl
  have e2 : (s.2.1.length : Int) = cellsI n := bne_int.2 e
  refine ⟨⟨by decide, by decide⟩, Br.intro (fun e => ?_) fun e => ?_⟩
  · have e : (s.2.2.1.length : Int) ≠ cellsI n := bne_int.1 e
    show _ = ((checkI n s).1, (checkI n s).2, ())
    unfold checkI; rw [if_neg e0, if_neg (by omega), if_neg (by omega), if_pos e]; rfl
  have e3 : (s.2.2.1.length : Int) = cellsI n := bne_int.2 e
  refine ⟨⟨by decide, by decide⟩, Br.intro (fun e => ?_) fun e => ?_⟩
  · have e : (s.2.2.2.1.length : Int) - cellsI n ≠ cellsI n := bne_int.1 e
    show _ = ((checkI n s).1, (checkI n s).2, ())
    unfold checkI; rw [if_neg e0, if_neg (by omega), if_neg (by omega), if_neg (by omega), if_pos (by omega)]; rfl
  have e4' : (s.2.2.2.1.length : Int) - cellsI n = cellsI n := bne_int.2 e
  have e4 : (s.2.2.2.1.length : Int) = 2 * cellsI n := by omega
  have base : checkI n s = if 0 ≤ floatsI s.1 4697254411347427328 then (floatsI s.1 4697254411347427328, 13)
    else if s.2.2.2.2.1 < 0 ∨ s.2.2.2.2.1 > 4503599627370496 then (0, 17)
    else if 0 ≤ quantaN 0 s.2.2.2.2.1 s.2.1 then (quantaN 0 s.2.2.2.2.1 s.2.1, 14)
    else if 0 ≤ quantaN 0 0 s.2.2.1 then (quantaN 0 0 s.2.2.1, 15)
    else if 0 ≤ floatsI s.2.2.2.1 4652218415073722368 then (floatsI s.2.2.2.1 4652218415073722368, 16)
    else if s.2.2.2.2.2 < 0 ∨ s.2.2.2.2.2 > 4611686018427387904 then (0, 1)
    else (0, 0) := by
    show (if cellsI n = 0 then _ else _) = _
    rw [if_neg e0, if_neg (by omega), if_neg (by omega), if_neg (by omega), if_neg (by omega)]
  have fin : ∀ p q, checkI n s = (p, q) → (p, q, ()) = checkR n s := by intro p q e; show _ = ((checkI n s).1, (checkI n s).2, ()); rw [e]
  refine ⟨⟨hb, by unfold W64; decide⟩, Br.intro (fun e => fin _ _ ?_) fun e => ?_⟩
  · have e : 0 ≤ floatsI s.1 4697254411347427328 := of_decide_eq_true e
    rw [base, if_pos e]; rfl
  have f1 : ¬ 0 ≤ floatsI s.1 4697254411347427328 := of_decide_eq_false e
  rw [if_neg f1] at base
  refine Br.intro (fun e => fin _ _ ?_) fun e => ?_
  · rw [base, if_pos (.inl (of_decide_eq_true e))]
  have f2 := of_decide_eq_false e
  refine Br.intro (fun e => fin _ _ ?_) fun e => ?_
  · rw [base, if_pos (.inr (of_decide_eq_true e))]
  have f3 := of_decide_eq_false e
  rw [if_neg (by omega)] at base
  refine ⟨⟨hw, by omega, by omega⟩, Br.intro (fun e => fin _ _ ?_) fun e => ?_⟩
  · have e : 0 ≤ quantaN 0 s.2.2.2.2.1 s.2.1 := of_decide_eq_true e
    rw [base, if_pos e]; rfl
  have f4 : ¬ 0 ≤ quantaN 0 s.2.2.2.2.1 s.2.1 := of_decide_eq_false e
  rw [if_neg f4] at base
  refine ⟨⟨ht, by omega, by omega⟩, Br.intro (fun e => fin _ _ ?_) fun e => ?_⟩
  · have e : 0 ≤ quantaN 0 0 s.2.2.1 := of_decide_eq_true e
    rw [base, if_pos e]; rfl
  have f5 : ¬ 0 ≤ quantaN 0 0 s.2.2.1 := of_decide_eq_false e
  rw [if_neg f5] at base
  refine ⟨⟨hs, by unfold W64; decide⟩, Br.intro (fun e => fin _ _ ?_) fun e => ?_⟩
  · have e : 0 ≤ floatsI s.2.2.2.1 4652218415073722368 := of_decide_eq_true e
    rw [base, if_pos e]; rfl
  have f6 : ¬ 0 ≤ floatsI s.2.2.2.1 4652218415073722368 := of_decide_eq_false e
  rw [if_neg f6] at base
  refine Br.intro (fun e => fin _ _ ?_) fun e => ?_
  · rw [base, if_pos (.inl (of_decide_eq_true e))]
  have f7 := of_decide_eq_false e
  refine Br.intro (fun e => fin _ _ ?_) fun e => fin _ _ ?_
  · rw [base, if_pos (.inr (of_decide_eq_true e))]
  have f8 := of_decide_eq_false e
  rw [base, if_neg (by omega)]
end Go.Lift

/- Contracts of functions, of a seat. Own work. -/
set_option linter.unusedVariables false
set_option linter.unusedSimpArgs false
namespace Go.Lift
open Go.Proofs
def Zx_ref20_between : Cx := ⟨tabOf Ztab, conOf [(94, Zq_raw_Bits)], ZG⟩
theorem Zx_ref20_between_ok : CxOk Tryz.prog Zx_ref20_between := ⟨tabB_sound Ztab_ok, conOf_sound ⟨Zh_raw_Bits, trivial⟩⟩
theorem Zat_ref20_between : FnAt Tryz.prog 110 Tryz.f110.ntmps Tryz.f110.results.toList (Tryz.f110.body.getD .skip) := ⟨Tryz.f110, Tryz.func110, rfl, rfl, by simp, by decide⟩
theorem Zeq_ref20_between (a : Nat) (b : Nat) (c : Nat) (post : Bool × Unit → Prop) : fnEval Zx_ref20_between nHn Tryz.f110.ntmps Tryz.f110.results.toList (Tryz.f110.body.getD .skip) [.flt .f64, .flt .f64, .flt .f64] [.snap .bool] (a, b, c, ()) post = Fx_ref20_between  a b c post := by kernel_rfl
theorem Zh_ref20_between : Zq_ref20_between.holds Tryz.prog ZG 110 :=
  detP Zx_ref20_between_ok Zmixed nHn Zat_ref20_between (F := fun x post => Fx_ref20_between  x.1 x.2.1 x.2.2.1 post) (fun x post => Zeq_ref20_between x.1 x.2.1 x.2.2.1 post) fun x h _ => Lx_ref20_between  x.1 x.2.1 x.2.2.1 h
def Zx_ref20_floats : Cx := ⟨tabOf Ztab, conOf [(110, Zq_ref20_between)], ZG⟩
theorem Zx_ref20_floats_ok : CxOk Tryz.prog Zx_ref20_floats := ⟨tabB_sound Ztab_ok, conOf_sound ⟨Zh_ref20_between, trivial⟩⟩
theorem Zat_ref20_floats : FnAt Tryz.prog 75 Tryz.f75.ntmps Tryz.f75.results.toList (Tryz.f75.body.getD .skip) := ⟨Tryz.f75, Tryz.func75, rfl, rfl, by simp, by decide⟩
theorem Zeq_ref20_floats (a : List Nat) (b : Nat) (post : Int × Unit → Prop) : fnEval Zx_ref20_floats Zhn_ref20_floats Tryz.f75.ntmps Tryz.f75.results.toList (Tryz.f75.body.getD .skip) [.slice (.flt .f64), .flt .f64] [.snap (.int .i64)] (a, b, ()) post = Fx_ref20_floats  a b post := by kernel_rfl
theorem Zh_ref20_floats : Zq_ref20_floats.holds Tryz.prog ZG 75 :=
  detP Zx_ref20_floats_ok Zmixed Zhn_ref20_floats Zat_ref20_floats (F := fun x post => Fx_ref20_floats  x.1 x.2.1 post) (fun x post => Zeq_ref20_floats x.1 x.2.1 post) fun x h w => Lx_ref20_floats  x.1 x.2.1 h w
def Zx_ref20_quanta : Cx := ⟨tabOf Ztab, conOf [], ZG⟩
theorem Zx_ref20_quanta_ok : CxOk Tryz.prog Zx_ref20_quanta := ⟨tabB_sound Ztab_ok, fun f c h => by cases h⟩
theorem Zat_ref20_quanta : FnAt Tryz.prog 76 Tryz.f76.ntmps Tryz.f76.results.toList (Tryz.f76.body.getD .skip) := ⟨Tryz.f76, Tryz.func76, rfl, rfl, by simp, by decide⟩
theorem Zeq_ref20_quanta (a : List Int) (b : Int) (post : Int × Unit → Prop) : fnEval Zx_ref20_quanta Zhn_ref20_quanta Tryz.f76.ntmps Tryz.f76.results.toList (Tryz.f76.body.getD .skip) [.slice (.int .i64), .int .i64] [.snap (.int .i64)] (a, b, ()) post = Fx_ref20_quanta  a b post := by kernel_rfl
theorem Zh_ref20_quanta : Zq_ref20_quanta.holds Tryz.prog ZG 76 :=
  detP Zx_ref20_quanta_ok Zmixed Zhn_ref20_quanta Zat_ref20_quanta (F := fun x post => Fx_ref20_quanta  x.1 x.2.1 post) (fun x post => Zeq_ref20_quanta x.1 x.2.1 post) fun x h w => Lx_ref20_quanta  x.1 x.2.1 h w
def Zx_ref20_Check : Cx := ⟨tabOf Ztab, conOf [(75, Zq_ref20_floats), (76, Zq_ref20_quanta)], ZG⟩
theorem Zx_ref20_Check_ok : CxOk Tryz.prog Zx_ref20_Check := ⟨tabB_sound Ztab_ok, conOf_sound ⟨Zh_ref20_floats, Zh_ref20_quanta, trivial⟩⟩
theorem Zat_ref20_Check : FnAt Tryz.prog 36 Tryz.f36.ntmps Tryz.f36.results.toList (Tryz.f36.body.getD .skip) := ⟨Tryz.f36, Tryz.func36, rfl, rfl, by simp, by decide⟩
theorem Zeq_ref20_Check (n : Int) (s : (List Nat) × (List Int) × (List Int) × (List Nat) × Int × Int) (post : Int × Int × Unit → Prop) : fnEval Zx_ref20_Check Zhn_ref20_Check Tryz.f36.ntmps Tryz.f36.results.toList (Tryz.f36.body.getD .skip) [.int .i64, kSea] [.snap (.int .i64), .snap (.int .i64)] (n, s, ()) post = Fx_ref20_Check  n s post := by kernel_rfl
theorem Zh_ref20_Check : Zq_ref20_Check.holds Tryz.prog ZG 36 :=
  detP Zx_ref20_Check_ok Zmixed Zhn_ref20_Check Zat_ref20_Check (F := fun x post => Fx_ref20_Check  x.1 x.2.1 post) (fun x post => Zeq_ref20_Check x.1 x.2.1 post) fun x h w => Lx_ref20_Check  x.1 x.2.1 h w
end Go.Lift

/- Rounding to 32 bits, as the reference has it. Own work. -/
set_option linter.unusedVariables false
set_option linter.unusedSimpArgs false
namespace Go.Lift
open Ieee
theorem single_gen {m : Nat} (hm : m ≠ 0) (p : Int) : single.nearest false m p = min ((max (p + m.log2 - 23) (-149) + 149).toNat * 8388608 + cutE (m * 2 ^ (p - max (p + m.log2 - 23) (-149)).toNat) (max (p + m.log2 - 23) (-149) - p).toNat) 2139095040 := by
  unfold Format.nearest
  rw [if_neg hm]
  dsimp only
  rw [cut_eq false _ _ (by rw [Nat.shiftLeft_eq]; exact Nat.mul_ne_zero hm (by have := Nat.two_pow_pos (p - max (p + m.log2 - single.fractionBits) single.leastPlace).toNat; omega))]
  unfold Format.word
  rw [if_neg (by decide)]
  have hl : single.leastPlace = -149 := by decide
  have hf : single.fractionBits = 23 := rfl
  have hbn : single.binade = 8388608 := by decide
  have hir : single.infRung = 2139095040 := by decide
  rw [hl, hf, hbn, hir, Nat.shiftLeft_eq]
  have e : ((23 : Nat) : Int) = 23 := rfl
  rw [e, show max (p + (m.log2 : Int) - 23) (-149) - -149 = max (p + (m.log2 : Int) - 23) (-149) + 149 by omega]
theorem small_single (m : Nat) (p : Int) : smallI (m : Int) p 23 (-149) 2139095040 = ((single.nearest false m p : Nat) : Int) := by
  by_cases hm : m = 0
  · subst hm
    have : single.nearest false 0 p = 0 := by unfold Format.nearest; rw [if_pos rfl]; rfl
    rw [this]; rfl
  · rw [single_gen hm]
    unfold smallI
    rw [if_neg (by omega), Int.toNat_natCast]
    have hl : lenI (m : Int) + p - (23 + 1) = p + m.log2 - 23 := by unfold lenI; rw [if_neg (by omega), Int.toNat_natCast]; omega
    rw [hl]
    have b1 : (2 : Int) ^ (23 : Int).toNat = 8388608 := by decide
    rw [b1]
    have l0 : -149 ≤ max (p + (m.log2 : Int) - 23) (-149) := by omega
    generalize max (p + (m.log2 : Int) - 23) (-149) = u at *
    generalize cutE (m * 2 ^ (p - u).toNat) (u - p).toNat = K
    omega
theorem single_big {r : Nat} (h : 5183643170835005440 ≤ r) (hf : r < infR) : single.nearest false (magOf r) (placeOf r) = 2139095040 := by
  have hb : bin ≤ r := by unfold bin; omega
  obtain ⟨q1, q2, q3⟩ := rung_parts hb
  have h0 : magOf r ≠ 0 := by unfold bin at q2; omega
  have hlog : (magOf r).log2 = 52 := by
    have a := (Nat.log2_lt (n := magOf r) (k := 53) h0).2 (mag_lt r)
    have b := Nat.log2_lt (n := magOf r) (k := 52) h0
    rw [show (2 : Nat) ^ 52 = bin from rfl] at b
    omega
  rw [single_gen h0, hlog]
  have hp : 75 ≤ placeOf r := by unfold bin at *; omega
  have e3 : max (placeOf r + ((52 : Nat) : Int) - 23) (-149) = placeOf r + 29 := by omega
  rw [e3, show (placeOf r - (placeOf r + 29)).toNat = 0 by omega, show (placeOf r + 29 - placeOf r).toNat = 29 by omega, Nat.pow_zero, Nat.mul_one]
  have c1 : 8388608 ≤ cutE (magOf r) 29 := le_cutE (by unfold bin at q2; omega)
  by_cases q : placeOf r = 75
  · have hm : 9007198986305536 ≤ magOf r := by
      rw [q, show ((75 : Int) + 1074).toNat = 1149 by decide] at q1
      have e : 1149 * bin = 5174635971848699904 := by decide
      omega
    have c2 : 16777216 ≤ cutE (magOf r) 29 := by
      rcases Nat.lt_or_eq_of_le hm with g | g
      · exact cutE_up (by omega) (by decide)
      · rw [← g]; decide
    omega
  · omega
theorem canon_axisF (m : Int) (v c : Nat) (h : canonF c = c) : canonF (axisF m v c) = axisF m v c := by
  unfold axisF
  split
  · exact canonF_idem _
  · split
    · exact canonF_idem _
    · exact h
theorem canon_axisP (f : Int) (s t i : Nat) : canonF (axisP f s t i) = axisP f s t i :=
  canon_axisF _ _ _ (canon_axisF _ _ _ (canon_axisF _ _ _ (by decide)))
end Go.Lift

/- Own work. -/
set_option linter.unusedVariables false
set_option linter.unusedSimpArgs false
namespace Go.Lift
def Fx_ref08_Area := fun (n c : Int) (post : Int × Unit → Prop) => ∃ (h : II n c), Br (!(placeR4 n c).snd.snd.snd.fst) (post ((0 : Int), ())) (∃ (h : IIII n (placeR4 n c).fst
  (placeR4 n c).snd.fst (placeR4 n c).snd.snd.fst), ∃ (h : IIII n (placeR4 n c).fst (IntKind.i64.wrap ((placeR4 n c).snd.fst + (1 : Int))) (placeR4 n c).snd.snd.fst), ∃ (h : IIII n
  (placeR4 n c).fst (IntKind.i64.wrap ((placeR4 n c).snd.fst + (1 : Int))) (IntKind.i64.wrap ((placeR4 n c).snd.snd.fst + (1 : Int)))), ∃ (h : IIII n (placeR4 n c).fst (placeR4 n
  c).snd.fst (IntKind.i64.wrap ((placeR4 n c).snd.snd.fst + (1 : Int)))), ∃ (h : WV2 ((cornerR n (placeR4 n c).fst (IntKind.i64.wrap ((placeR4 n c).snd.fst + (1 : Int)))
  (IntKind.i64.wrap ((placeR4 n c).snd.snd.fst + (1 : Int)))).fst.fst, (cornerR n (placeR4 n c).fst (IntKind.i64.wrap ((placeR4 n c).snd.fst + (1 : Int))) (IntKind.i64.wrap
  ((placeR4 n c).snd.snd.fst + (1 : Int)))).fst.snd.fst, (cornerR n (placeR4 n c).fst (IntKind.i64.wrap ((placeR4 n c).snd.fst + (1 : Int))) (IntKind.i64.wrap ((placeR4 n
  c).snd.snd.fst + (1 : Int)))).fst.snd.snd) ((cornerR n (placeR4 n c).fst (placeR4 n c).snd.fst (placeR4 n c).snd.snd.fst).fst.fst, (cornerR n (placeR4 n c).fst (placeR4 n
  c).snd.fst (placeR4 n c).snd.snd.fst).fst.snd.fst, (cornerR n (placeR4 n c).fst (placeR4 n c).snd.fst (placeR4 n c).snd.snd.fst).fst.snd.snd)), ∃ (h : WV2 ((cornerR n (placeR4 n
  c).fst (placeR4 n c).snd.fst (IntKind.i64.wrap ((placeR4 n c).snd.snd.fst + (1 : Int)))).fst.fst, (cornerR n (placeR4 n c).fst (placeR4 n c).snd.fst (IntKind.i64.wrap ((placeR4 n
  c).snd.snd.fst + (1 : Int)))).fst.snd.fst, (cornerR n (placeR4 n c).fst (placeR4 n c).snd.fst (IntKind.i64.wrap ((placeR4 n c).snd.snd.fst + (1 : Int)))).fst.snd.snd) ((cornerR n
  (placeR4 n c).fst (IntKind.i64.wrap ((placeR4 n c).snd.fst + (1 : Int))) (placeR4 n c).snd.snd.fst).fst.fst, (cornerR n (placeR4 n c).fst (IntKind.i64.wrap ((placeR4 n c).snd.fst
  + (1 : Int))) (placeR4 n c).snd.snd.fst).fst.snd.fst, (cornerR n (placeR4 n c).fst (IntKind.i64.wrap ((placeR4 n c).snd.fst + (1 : Int))) (placeR4 n c).snd.snd.fst).fst.snd.snd)),
  ∃ (h : True), ∃ (h : WV (crossR (minusR ((cornerR n (placeR4 n c).fst (IntKind.i64.wrap ((placeR4 n c).snd.fst + (1 : Int))) (IntKind.i64.wrap ((placeR4 n c).snd.snd.fst + (1 :
  Int)))).fst.fst, (cornerR n (placeR4 n c).fst (IntKind.i64.wrap ((placeR4 n c).snd.fst + (1 : Int))) (IntKind.i64.wrap ((placeR4 n c).snd.snd.fst + (1 : Int)))).fst.snd.fst,
  (cornerR n (placeR4 n c).fst (IntKind.i64.wrap ((placeR4 n c).snd.fst + (1 : Int))) (IntKind.i64.wrap ((placeR4 n c).snd.snd.fst + (1 : Int)))).fst.snd.snd) ((cornerR n (placeR4 n
  c).fst (placeR4 n c).snd.fst (placeR4 n c).snd.snd.fst).fst.fst, (cornerR n (placeR4 n c).fst (placeR4 n c).snd.fst (placeR4 n c).snd.snd.fst).fst.snd.fst, (cornerR n (placeR4 n
  c).fst (placeR4 n c).snd.fst (placeR4 n c).snd.snd.fst).fst.snd.snd)).fst (minusR ((cornerR n (placeR4 n c).fst (placeR4 n c).snd.fst (IntKind.i64.wrap ((placeR4 n c).snd.snd.fst
  + (1 : Int)))).fst.fst, (cornerR n (placeR4 n c).fst (placeR4 n c).snd.fst (IntKind.i64.wrap ((placeR4 n c).snd.snd.fst + (1 : Int)))).fst.snd.fst, (cornerR n (placeR4 n c).fst
  (placeR4 n c).snd.fst (IntKind.i64.wrap ((placeR4 n c).snd.snd.fst + (1 : Int)))).fst.snd.snd) ((cornerR n (placeR4 n c).fst (IntKind.i64.wrap ((placeR4 n c).snd.fst + (1 : Int)))
  (placeR4 n c).snd.snd.fst).fst.fst, (cornerR n (placeR4 n c).fst (IntKind.i64.wrap ((placeR4 n c).snd.fst + (1 : Int))) (placeR4 n c).snd.snd.fst).fst.snd.fst, (cornerR n (placeR4
  n c).fst (IntKind.i64.wrap ((placeR4 n c).snd.fst + (1 : Int))) (placeR4 n c).snd.snd.fst).fst.snd.snd)).fst).fst), ∀ (a : Nat), FRes Go.FloatKind.f64 (Go.FloatKind.f64.format.mul
  (lengthR (crossR (minusR ((cornerR n (placeR4 n c).fst (IntKind.i64.wrap ((placeR4 n c).snd.fst + (1 : Int))) (IntKind.i64.wrap ((placeR4 n c).snd.snd.fst + (1 : Int)))).fst.fst,
  (cornerR n (placeR4 n c).fst (IntKind.i64.wrap ((placeR4 n c).snd.fst + (1 : Int))) (IntKind.i64.wrap ((placeR4 n c).snd.snd.fst + (1 : Int)))).fst.snd.fst, (cornerR n (placeR4 n
  c).fst (IntKind.i64.wrap ((placeR4 n c).snd.fst + (1 : Int))) (IntKind.i64.wrap ((placeR4 n c).snd.snd.fst + (1 : Int)))).fst.snd.snd) ((cornerR n (placeR4 n c).fst (placeR4 n
  c).snd.fst (placeR4 n c).snd.snd.fst).fst.fst, (cornerR n (placeR4 n c).fst (placeR4 n c).snd.fst (placeR4 n c).snd.snd.fst).fst.snd.fst, (cornerR n (placeR4 n c).fst (placeR4 n
  c).snd.fst (placeR4 n c).snd.snd.fst).fst.snd.snd)).fst (minusR ((cornerR n (placeR4 n c).fst (placeR4 n c).snd.fst (IntKind.i64.wrap ((placeR4 n c).snd.snd.fst + (1 :
  Int)))).fst.fst, (cornerR n (placeR4 n c).fst (placeR4 n c).snd.fst (IntKind.i64.wrap ((placeR4 n c).snd.snd.fst + (1 : Int)))).fst.snd.fst, (cornerR n (placeR4 n c).fst (placeR4
  n c).snd.fst (IntKind.i64.wrap ((placeR4 n c).snd.snd.fst + (1 : Int)))).fst.snd.snd) ((cornerR n (placeR4 n c).fst (IntKind.i64.wrap ((placeR4 n c).snd.fst + (1 : Int))) (placeR4
  n c).snd.snd.fst).fst.fst, (cornerR n (placeR4 n c).fst (IntKind.i64.wrap ((placeR4 n c).snd.fst + (1 : Int))) (placeR4 n c).snd.snd.fst).fst.snd.fst, (cornerR n (placeR4 n c).fst
  (IntKind.i64.wrap ((placeR4 n c).snd.fst + (1 : Int))) (placeR4 n c).snd.snd.fst).fst.snd.snd)).fst).fst).fst (4602678819172646912 : Nat)) a → ∀ (a_1 : Nat), FRes Go.FloatKind.f64
  (Go.FloatKind.f64.format.mul a (4742290407621132288 : Nat)) a_1 → ∃ (h : W64 a_1), ∀ (a : Bool), a = decide ((roundR a_1).fst < (1 : Int)) → Br a (post ((1 : Int), ())) (post
  ((roundR a_1).fst, ())))
theorem Lx_ref08_Area (n : Int) (c : Int) (h : II n c) : Fx_ref08_Area  n c (fun r => r = areaR n c) := by
  refine ⟨h, ?_⟩
  by_cases ok : placeOk n c = true
  · have hp : placeR4 n c = (c / (n * n), c % n, c / n % n, true, ()) := by unfold placeR4; rw [if_pos ok]
    rw [hp]
    dsimp only
    obtain ⟨f1, f2, f3, f4, f5, f6⟩ := place_facts ok
    obtain ⟨g1, g2, g3, g4, g5, g6⟩ := place_rng ok
    have w1 : IntKind.i64.wrap (c % n + 1) = c % n + 1 := wi ⟨by omega, by omega⟩
    have w2 : IntKind.i64.wrap (c / n % n + 1) = c / n % n + 1 := wi ⟨by omega, by omega⟩
    rw [w1, w2]
    have hc : ∀ i j : Int, 0 ≤ i → i ≤ n → 0 ≤ j → j ≤ n → cornerR n (c / (n * n)) i j = (cornerQ n (c / (n * n)) i j, true, ()) := by
      intro i j a1 a2 a3 a4
      have : cornerOk n (c / (n * n)) i j = true := by
        unfold cornerOk
        rw [goodC_iff.2 ⟨f1, f2⟩, decide_eq_true g1, decide_eq_true g2, decide_eq_true a1, decide_eq_true a2, decide_eq_true a3, decide_eq_true a4]; rfl
      unfold cornerR; rw [if_pos this]
    rw [hc (c % n) (c / n % n) g3 (by omega) g5 (by omega), hc (c % n + 1) (c / n % n) (by omega) (by omega) g5 (by omega), hc (c % n + 1) (c / n % n + 1) (by omega) (by omega) (by omega) (by omega), hc (c % n) (c / n % n + 1) g3 (by omega) (by omega) (by omega)]
    dsimp only
    have hw : ∀ i j : Int, WV (cornerQ n (c / (n * n)) i j) := fun i j => cornerQ_w _ _ _ _
    have i6 : ∀ {z : Int}, 0 ≤ z → z ≤ 6144 → I64 z := fun {z} a b => ⟨by omega, by omega⟩
    have hsp : spanQ n c = lengthQ (crossV (minusV (cornerQ n (c / (n * n)) (c % n + 1) (c / n % n + 1)) (cornerQ n (c / (n * n)) (c % n) (c / n % n))) (minusV (cornerQ n (c / (n * n)) (c % n) (c / n % n + 1)) (cornerQ n (c / (n * n)) (c % n + 1) (c / n % n)))) := by
      unfold spanQ cornerC; rw [Int.add_zero, Int.add_zero]
    have w00 := hw (c % n) (c / n % n)
    have w10 := hw (c % n + 1) (c / n % n)
    have w11 := hw (c % n + 1) (c / n % n + 1)
    have w01 := hw (c % n) (c / n % n + 1)
    generalize cornerQ n (c / (n * n)) (c % n) (c / n % n) = A at *
    generalize cornerQ n (c / (n * n)) (c % n + 1) (c / n % n) = B at *
    generalize cornerQ n (c / (n * n)) (c % n + 1) (c / n % n + 1) = C at *
    generalize cornerQ n (c / (n * n)) (c % n) (c / n % n + 1) = D at *
    refine Br.intro (fun e => absurd e (by decide)) fun _ => ?_
    refine ⟨⟨h.1, i6 g1 (by omega), i6 g3 (by omega), i6 g5 (by omega)⟩, ⟨h.1, i6 g1 (by omega), i6 (by omega) (by omega), i6 g5 (by omega)⟩, ⟨h.1, i6 g1 (by omega), i6 (by omega) (by omega), i6 (by omega) (by omega)⟩, ⟨h.1, i6 g1 (by omega), i6 g3 (by omega), i6 (by omega) (by omega)⟩, ⟨w11, w00⟩, ⟨w01, w10⟩, trivial, crossV_w _ _, ?_⟩
    intro x hx y hy
    obtain ⟨x1, x2⟩ := fmul hx
    obtain ⟨y1, y2⟩ := fmul hy
    have hx1 : quietF x = mulQ (spanQ n c) halfR := by rw [x1, hsp]; rfl
    have hy1 : quietF y = mulQ (mulQ (spanQ n c) halfR) unitArea := by
      rw [y1]
      have u : quietF x = quietF (mulQ (spanQ n c) halfR) := by rw [hx1, mulQ_q]
      exact mulQ_congr u rfl
    have hval : areaI n c = imax (roundI y).1 1 := by
      unfold areaI; rw [if_pos ok, round_quiet y2, hy1]
    refine ⟨y2, ?_⟩
    rintro _ rfl
    refine Br.intro (fun e => ?_) fun e => ?_
    · have e : (roundI y).1 < 1 := of_decide_eq_true e
      exact congrArg r1 (by rw [hval]; unfold imax; rw [if_pos (by omega)])
    · have e : ¬ (roundI y).1 < 1 := of_decide_eq_false e
      show r1 (roundI y).1 = r1 (areaI n c)
      exact congrArg r1 (by rw [hval]; unfold imax; rw [if_neg (by omega)])
  · have hp : placeR4 n c = (0, 0, 0, false, ()) := by unfold placeR4; rw [if_neg ok]
    rw [hp]
    refine Br.intro (fun e => ?_) fun e => absurd e (by decide)
    exact congrArg r1 (by unfold areaI; rw [if_neg ok])
end Go.Lift

/- Own work. -/
set_option linter.unusedVariables false
set_option linter.unusedSimpArgs false
namespace Go.Lift
def Fx_ref06_Cells := fun (a : Int) (post : Int × Unit → Prop) => ∀ (a_1 : Bool), a_1 = decide (a < (1 : Int)) → Br a_1 (post ((0 : Int), ())) (∀ (a_2 : Bool), a_2 = decide (a > (32
  : Int)) → Br a_2 (post ((0 : Int), ())) (post (IntKind.i64.wrap (IntKind.i64.wrap ((6 : Int) * a) * a), ())))
theorem Lx_ref06_Cells (a : Int) (h : I64 a) : Fx_ref06_Cells  a (fun r => r = cellsR a) := by
  rintro _ rfl
  refine Br.intro (fun e => ?_) fun e => ?_
  · have e := of_decide_eq_true e
    exact congrArg r1 (cells_bad (goodC_false.2 (.inl e))).symm
  have e := of_decide_eq_false e
  rintro _ rfl
  refine Br.intro (fun f => ?_) fun f => ?_
  · have f := of_decide_eq_true f
    exact congrArg r1 (cells_bad (goodC_false.2 (.inr f))).symm
  · have f := of_decide_eq_false f
    exact congrArg r1 (cells_wrap (goodC_iff.2 ⟨by omega, by omega⟩))
def Fx_ref06_Place := fun (n c : Int) (post : Int × Int × Int × Bool × Unit → Prop) => ∀ (a : Bool), a = decide (c < (0 : Int)) → Br a (post ((0 : Int), (0 : Int), (0 : Int),
  Bool.false, ())) (∃ (h : I64 n), ∀ (a : Bool), a = decide (c ≥ (cellsR n).fst) → Br a (post ((0 : Int), (0 : Int), (0 : Int), Bool.false, ())) (∃ (h : IntKind.i64.wrap (n * n) ≠
  (0 : Int)), ∃ (h : n ≠ (0 : Int)), ∃ (h : n ≠ (0 : Int)), ∃ (h : n ≠ (0 : Int)), post (IntKind.i64.wrap (c.tdiv (IntKind.i64.wrap (n * n))), c.tmod n, (IntKind.i64.wrap (c.tdiv
  n)).tmod n, Bool.true, ())))
theorem Lx_ref06_Place (n : Int) (c : Int) (h : II n c) : Fx_ref06_Place  n c (fun r => r = placeR4 n c) := by
  have bad : placeOk n c = false → ((0 : Int), (0 : Int), (0 : Int), false, ()) = placeR4 n c := by
    intro e; unfold placeR4; rw [if_neg (by rw [e]; decide)]
  rintro _ rfl
  refine Br.intro (fun e => ?_) fun e => ?_
  · have e := of_decide_eq_true e
    exact bad (by unfold placeOk; rw [decide_eq_false (by omega), Bool.false_and])
  · have e := of_decide_eq_false e
    refine ⟨h.1, ?_⟩
    rintro _ rfl
    refine Br.intro (fun f => ?_) fun f => ?_
    · have f : cellsI n ≤ c := of_decide_eq_true f
      exact bad (by unfold placeOk; rw [decide_eq_false (p := c < cellsI n) (by omega), Bool.and_false])
    · have f : ¬ c ≥ cellsI n := of_decide_eq_false f
      have ok : placeOk n c = true := by unfold placeOk; rw [decide_eq_true (by omega), decide_eq_true (by omega)]; rfl
      obtain ⟨h1, h2, h3, h4, h5, h6⟩ := place_facts ok
      obtain ⟨r1, r2, r3, r4, r5, r6⟩ := place_rng ok
      have w1 : IntKind.i64.wrap (n * n) = n * n := wi ⟨by omega, by omega⟩
      have d1 : c.tdiv (n * n) = c / (n * n) := Int.tdiv_eq_ediv_of_nonneg h3
      have d2 : c.tdiv n = c / n := Int.tdiv_eq_ediv_of_nonneg h3
      have d3 : 0 ≤ c / n ∧ c / n ≤ c := ⟨Int.ediv_nonneg h3 (by omega), Int.ediv_le_self _ h3⟩
      have w2 : IntKind.i64.wrap (c / n) = c / n := wi ⟨by omega, by have := h.2; unfold I64 at this; omega⟩
      have w3 : IntKind.i64.wrap (c / (n * n)) = c / (n * n) := wi ⟨by omega, by omega⟩
      refine ⟨by rw [w1]; omega, by omega, by omega, by omega, ?_⟩
      rw [w1, d1, w3, d2, w2, Int.tmod_eq_emod_of_nonneg h3, Int.tmod_eq_emod_of_nonneg d3.1]
      unfold placeR4; rw [if_pos ok]
end Go.Lift

/- Contracts of functions, of a seat. Own work. -/
set_option linter.unusedVariables false
set_option linter.unusedSimpArgs false
namespace Go.Lift
open Go.Proofs
def Zx_ref06_Cells : Cx := ⟨tabOf Ztab, conOf [], ZG⟩
theorem Zx_ref06_Cells_ok : CxOk Tryz.prog Zx_ref06_Cells := ⟨tabB_sound Ztab_ok, fun f c h => by cases h⟩
theorem Zat_ref06_Cells : FnAt Tryz.prog 113 Tryz.f113.ntmps Tryz.f113.results.toList (Tryz.f113.body.getD .skip) := ⟨Tryz.f113, Tryz.func113, rfl, rfl, by simp, by decide⟩
theorem Zeq_ref06_Cells (a : Int) (post : Int × Unit → Prop) : fnEval Zx_ref06_Cells nHn Tryz.f113.ntmps Tryz.f113.results.toList (Tryz.f113.body.getD .skip) [.int .i64] [.snap (.int .i64)] (a, ()) post = Fx_ref06_Cells  a post := by kernel_rfl
theorem Zh_ref06_Cells : Zq_ref06_Cells.holds Tryz.prog ZG 113 :=
  detP Zx_ref06_Cells_ok Zmixed nHn Zat_ref06_Cells (F := fun x post => Fx_ref06_Cells  x.1 post) (fun x post => Zeq_ref06_Cells x.1 post) fun x h _ => Lx_ref06_Cells  x.1 h
def Zx_ref06_Place : Cx := ⟨tabOf Ztab, conOf [(113, Zq_ref06_Cells)], ZG⟩
theorem Zx_ref06_Place_ok : CxOk Tryz.prog Zx_ref06_Place := ⟨tabB_sound Ztab_ok, conOf_sound ⟨Zh_ref06_Cells, trivial⟩⟩
theorem Zat_ref06_Place : FnAt Tryz.prog 80 Tryz.f80.ntmps Tryz.f80.results.toList (Tryz.f80.body.getD .skip) := ⟨Tryz.f80, Tryz.func80, rfl, rfl, by simp, by decide⟩
theorem Zeq_ref06_Place (n : Int) (c : Int) (post : Int × Int × Int × Bool × Unit → Prop) : fnEval Zx_ref06_Place nHn Tryz.f80.ntmps Tryz.f80.results.toList (Tryz.f80.body.getD .skip) [.int .i64, .int .i64] [.snap (.int .i64), .snap (.int .i64), .snap (.int .i64), .snap .bool] (n, c, ()) post = Fx_ref06_Place  n c post := by kernel_rfl
theorem Zh_ref06_Place : Zq_ref06_Place.holds Tryz.prog ZG 80 :=
  detP Zx_ref06_Place_ok Zmixed nHn Zat_ref06_Place (F := fun x post => Fx_ref06_Place  x.1 x.2.1 post) (fun x post => Zeq_ref06_Place x.1 x.2.1 post) fun x h _ => Lx_ref06_Place  x.1 x.2.1 h
end Go.Lift

/- Own work. -/
set_option linter.unusedVariables false
set_option linter.unusedSimpArgs false
namespace Go.Lift
def Fx_ref08_ratio := fun (a b : Int) (post : Nat × Unit → Prop) => ∃ (h : I64 a), ∃ (h : I64 b), ∀ (a_1 : Nat), FRes Go.FloatKind.f64 (Go.FloatKind.f64.format.div (ofIR a).fst
  (ofIR b).fst) a_1 → post (a_1, ())
theorem Lx_ref08_ratio (a : Int) (b : Int) (h : WRatio a b) : Fx_ref08_ratio  a b (fun r => r = ratioR a b) := by
  exact ⟨h.1, h.2.2, fun r hr => congrArg r1 (div_ofI h.1 h.2.1 h.2.2 hr)⟩
def Fx_ref08_component := fun (f i : Int) (s t : Nat) (post : Nat × Unit → Prop) => ∃ (h : (0 : Int) ≤ f ∧ f < (↑(6 : Nat) : Int)), ∃ (h : (0 : Int) ≤ f ∧ f < (↑(6 : Nat) : Int)), ∃
  (h : (0 : Int) ≤ f ∧ f < (↑(6 : Nat) : Int)), ∀ (a : Bool), a = ([(1 : Int), (2 : Int), (-1 : Int), (-2 : Int), (3 : Int), (-3 : Int)].getD ((0 : Nat) + f.toNat) (0 : Int) == i) →
  Br a (∃ (h : W64 (4607182418800017408 : Nat)), post ((canonR (4607182418800017408 : Nat)).fst, ())) (∀ (a : Bool), a = ([(1 : Int), (2 : Int), (-1 : Int), (-2 : Int), (3 : Int),
  (-3 : Int)].getD ((0 : Nat) + f.toNat) (0 : Int) == IntKind.i64.wrap ((0 : Int) - i)) → Br a (∃ (h : W64 (Go.Op.negFloat Go.FloatKind.f64 (4607182418800017408 : Nat))), post
  ((canonR (Go.Op.negFloat Go.FloatKind.f64 (4607182418800017408 : Nat))).fst, ())) (∀ (a : Bool), a = ([(2 : Int), (-1 : Int), (-2 : Int), (1 : Int), (2 : Int), (2 : Int)].getD ((0
  : Nat) + f.toNat) (0 : Int) == i) → Br a (∃ (h : W64 s), post ((canonR s).fst, ())) (∀ (a : Bool), a = ([(2 : Int), (-1 : Int), (-2 : Int), (1 : Int), (2 : Int), (2 : Int)].getD
  ((0 : Nat) + f.toNat) (0 : Int) == IntKind.i64.wrap ((0 : Int) - i)) → Br a (∃ (h : W64 (Go.Op.negFloat Go.FloatKind.f64 s)), post ((canonR (Go.Op.negFloat Go.FloatKind.f64
  s)).fst, ())) (∀ (a : Bool), a = ([(3 : Int), (3 : Int), (3 : Int), (3 : Int), (-1 : Int), (1 : Int)].getD ((0 : Nat) + f.toNat) (0 : Int) == i) → Br a (∃ (h : W64 t), post
  ((canonR t).fst, ())) (∀ (a : Bool), a = ([(3 : Int), (3 : Int), (3 : Int), (3 : Int), (-1 : Int), (1 : Int)].getD ((0 : Nat) + f.toNat) (0 : Int) == IntKind.i64.wrap ((0 : Int) -
  i)) → Br a (∃ (h : W64 (Go.Op.negFloat Go.FloatKind.f64 t)), post ((canonR (Go.Op.negFloat Go.FloatKind.f64 t)).fst, ())) (∃ (h : W64 (0 : Nat)), post ((canonR (0 : Nat)).fst,
  ())))))))
theorem Lx_ref08_component (f : Int) (i : Int) (s : Nat) (t : Nat) (h : WComp f i s t) : Fx_ref08_component  f i s t (fun r => r = compR f i s t) := by
  obtain ⟨f0, f5, i1, i3, hs, ht⟩ := h
  have h1 : W64 4607182418800017408 := by unfold W64; decide
  have hf : f = 0 ∨ f = 1 ∨ f = 2 ∨ f = 3 ∨ f = 4 ∨ f = 5 := by omega
  have hi : i = 1 ∨ i = 2 ∨ i = 3 := by omega
  have fin : ∀ x k, axisP f s t k = canonF x → k = (i - 1).toNat → ((canonR x).fst, ()) = compR f i s t := by
    intro x k e q
    refine congrArg r1 ?_
    rw [← q, e]
    exact (canonF_idem x).symm
  rcases hf with rfl | rfl | rfl | rfl | rfl | rfl <;> rcases hi with rfl | rfl | rfl <;> refine ⟨by decide, by decide, by decide, ?_⟩ <;>
    first
      | exact named_true rfl ⟨h1, fin _ _ rfl rfl⟩
      | exact named_false rfl (named_true rfl ⟨negF_w h1, fin _ _ rfl rfl⟩)
      | exact named_false rfl (named_false rfl (named_true rfl ⟨hs, fin _ _ rfl rfl⟩))
      | exact named_false rfl (named_false rfl (named_false rfl (named_true rfl ⟨negF_w hs, fin _ _ rfl rfl⟩)))
      | exact named_false rfl (named_false rfl (named_false rfl (named_false rfl (named_true rfl ⟨ht, fin _ _ rfl rfl⟩))))
      | exact named_false rfl (named_false rfl (named_false rfl (named_false rfl (named_false rfl (named_true rfl ⟨negF_w ht, fin _ _ rfl rfl⟩)))))
def Fx_ref08_point := fun (f : Int) (s t : Nat) (post : (Nat × Nat × Nat) × Unit → Prop) => ∃ (h : WComp f (1 : Int) s t), ∃ (h : WComp f (2 : Int) s t), ∃ (h : WComp f (3 : Int) s
  t), ∃ (h : WV ((compR f (1 : Int) s t).fst, (compR f (2 : Int) s t).fst, (compR f (3 : Int) s t).fst)), post (((unitR ((compR f (1 : Int) s t).fst, (compR f (2 : Int) s t).fst,
  (compR f (3 : Int) s t).fst)).fst.fst, (unitR ((compR f (1 : Int) s t).fst, (compR f (2 : Int) s t).fst, (compR f (3 : Int) s t).fst)).fst.snd.fst, (unitR ((compR f (1 : Int) s
  t).fst, (compR f (2 : Int) s t).fst, (compR f (3 : Int) s t).fst)).fst.snd.snd), ())
theorem Lx_ref08_point (f : Int) (s : Nat) (t : Nat) (h : WPoint f s t) : Fx_ref08_point  f s t (fun r => r = pointR f s t) := by
  obtain ⟨f0, f5, hs, ht⟩ := h
  have c : ∀ i : Int, (compR f i s t).1 = axisP f s t (i - 1).toNat := fun i => canon_axisP f s t _
  refine ⟨⟨f0, f5, by decide, by decide, hs, ht⟩, ⟨f0, f5, by decide, by decide, hs, ht⟩, ⟨f0, f5, by decide, by decide, hs, ht⟩, ?_⟩
  rw [c, c, c]
  exact ⟨⟨axisP_w f hs ht _, axisP_w f hs ht _, axisP_w f hs ht _⟩, rfl⟩
def Fx_ref08_Corner := fun (n f i j : Int) (post : (Nat × Nat × Nat) × Bool × Unit → Prop) => ∀ (a : Bool), a = decide (n < (1 : Int)) → Br a (post (((0 : Nat), (0 : Nat), (0 :
  Nat)), Bool.false, ())) (∀ (a : Bool), a = decide (n > (32 : Int)) → Br a (post (((0 : Nat), (0 : Nat), (0 : Nat)), Bool.false, ())) (∀ (a : Bool), a = decide (f < (0 : Int)) → Br
  a (post (((0 : Nat), (0 : Nat), (0 : Nat)), Bool.false, ())) (∀ (a : Bool), a = decide (f > (5 : Int)) → Br a (post (((0 : Nat), (0 : Nat), (0 : Nat)), Bool.false, ())) (∀ (a :
  Bool), a = decide (i < (0 : Int)) → Br a (post (((0 : Nat), (0 : Nat), (0 : Nat)), Bool.false, ())) (∀ (a : Bool), a = decide (i > n) → Br a (post (((0 : Nat), (0 : Nat), (0 :
  Nat)), Bool.false, ())) (∀ (a : Bool), a = decide (j < (0 : Int)) → Br a (post (((0 : Nat), (0 : Nat), (0 : Nat)), Bool.false, ())) (∀ (a : Bool), a = decide (j > n) → Br a (post
  (((0 : Nat), (0 : Nat), (0 : Nat)), Bool.false, ())) (∃ (h : WRatio (IntKind.i64.wrap (IntKind.i64.wrap ((2 : Int) * i) - n)) n), ∃ (h : WRatio (IntKind.i64.wrap (IntKind.i64.wrap
  ((2 : Int) * j) - n)) n), ∃ (h : WPoint f (ratioR (IntKind.i64.wrap (IntKind.i64.wrap ((2 : Int) * i) - n)) n).fst (ratioR (IntKind.i64.wrap (IntKind.i64.wrap ((2 : Int) * j) -
  n)) n).fst), post (((pointR f (ratioR (IntKind.i64.wrap (IntKind.i64.wrap ((2 : Int) * i) - n)) n).fst (ratioR (IntKind.i64.wrap (IntKind.i64.wrap ((2 : Int) * j) - n))
  n).fst).fst.fst, (pointR f (ratioR (IntKind.i64.wrap (IntKind.i64.wrap ((2 : Int) * i) - n)) n).fst (ratioR (IntKind.i64.wrap (IntKind.i64.wrap ((2 : Int) * j) - n))
  n).fst).fst.snd.fst, (pointR f (ratioR (IntKind.i64.wrap (IntKind.i64.wrap ((2 : Int) * i) - n)) n).fst (ratioR (IntKind.i64.wrap (IntKind.i64.wrap ((2 : Int) * j) - n))
  n).fst).fst.snd.snd), Bool.true, ())))))))))
theorem Lx_ref08_Corner (n : Int) (f : Int) (i : Int) (j : Int) (h : IIII n f i j) : Fx_ref08_Corner  n f i j (fun r => r = cornerR n f i j) := by
  obtain ⟨hn, hf, hi, hj⟩ := h
  have bad : cornerOk n f i j = false → (((0 : Nat), (0 : Nat), (0 : Nat)), false, ()) = cornerR n f i j := by
    intro e; unfold cornerR; rw [if_neg (by rw [e]; decide)]
  rintro _ rfl
  refine Br.intro (fun e => bad ?_) fun e0 => ?_
  · have e := of_decide_eq_true e
    unfold cornerOk; rw [goodC_false.2 (.inl e)]; rfl
  have e0 := of_decide_eq_false e0
  rintro _ rfl
  refine Br.intro (fun e => bad ?_) fun e00 => ?_
  · have e := of_decide_eq_true e
    unfold cornerOk; rw [goodC_false.2 (.inr e)]; rfl
  have e00 := of_decide_eq_false e00
  have hg : goodC n = true := goodC_iff.2 ⟨by omega, by omega⟩
  obtain ⟨n1, n2⟩ := goodC_iff.1 hg
  have no : ¬ (0 ≤ f ∧ f ≤ 5 ∧ 0 ≤ i ∧ i ≤ n ∧ 0 ≤ j ∧ j ≤ n) → cornerOk n f i j = false := by
    intro q
    rw [Bool.eq_false_iff]
    intro w
    unfold cornerOk at w
    simp only [Bool.and_eq_true, decide_eq_true_eq] at w
    omega
  rintro _ rfl
  refine Br.intro (fun e => bad (no (by have e := of_decide_eq_true e; omega))) fun e1 => ?_
  have e1 := of_decide_eq_false e1
  rintro _ rfl
  refine Br.intro (fun e => bad (no (by have e := of_decide_eq_true e; omega))) fun e2 => ?_
  have e2 := of_decide_eq_false e2
  rintro _ rfl
  refine Br.intro (fun e => bad (no (by have e := of_decide_eq_true e; omega))) fun e3 => ?_
  have e3 := of_decide_eq_false e3
  rintro _ rfl
  refine Br.intro (fun e => bad (no (by have e := of_decide_eq_true e; omega))) fun e4 => ?_
  have e4 := of_decide_eq_false e4
  rintro _ rfl
  refine Br.intro (fun e => bad (no (by have e := of_decide_eq_true e; omega))) fun e5 => ?_
  have e5 := of_decide_eq_false e5
  rintro _ rfl
  refine Br.intro (fun e => bad (no (by have e := of_decide_eq_true e; omega))) fun e6 => ?_
  have e6 := of_decide_eq_false e6
  obtain ⟨w1, w2⟩ := ratio_wrap n1 n2 (i := i) (by omega) (by omega)
  obtain ⟨w3, w4⟩ := ratio_wrap n1 n2 (i := j) (by omega) (by omega)
  rw [w1, w3]
  refine ⟨w2, w4, ⟨by omega, by omega, divQF_w _ _, divQF_w _ _⟩, ?_⟩
  have ok : cornerOk n f i j = true := by
    unfold cornerOk
    rw [hg, decide_eq_true (by omega), decide_eq_true (by omega), decide_eq_true (by omega), decide_eq_true (by omega), decide_eq_true (by omega), decide_eq_true (by omega)]
    rfl
  unfold cornerR; rw [if_pos ok]; rfl
end Go.Lift

/- Own work. -/
set_option linter.unusedVariables false
set_option linter.unusedSimpArgs false
namespace Go.Lift
def Fx_ref02_length := fun (a : Int) (post : Int × Unit → Prop) => HIs [] [] ∧ ∃ (I : Int × Int × Unit → Unit → Prop), ∃ (μ : Int × Int × Unit → Unit → Nat), I (a, (0 : Int), ()) ()
  ∧ ∀ (x : Int × Int × Unit) (y : Unit), I x y → ∀ (a : Bool), a = decide (x.fst > (0 : Int)) → Br a (∃ (h : (2 : Int) ≠ (0 : Int)), HIs [] [] ∧ I (IntKind.u64.wrap (x.fst.tdiv (2 :
  Int)), IntKind.i64.wrap (x.snd.fst + (1 : Int)), ()) () ∧ μ (IntKind.u64.wrap (x.fst.tdiv (2 : Int)), IntKind.i64.wrap (x.snd.fst + (1 : Int)), ()) () < μ x y) (post (x.snd.fst,
  ()))
theorem Lx_ref02_length (a : Int) (h : U64 a) : Fx_ref02_length  a (fun r => r = lenR a) := by
  have hlen : ∀ m : Int, 0 < m → lenI m = lenI (m / 2) + 1 := by
    intro m hm
    obtain ⟨k, rfl⟩ : ∃ k : Nat, m = k := ⟨m.toNat, by omega⟩
    unfold lenI
    rw [if_neg (by omega), Int.toNat_natCast]
    by_cases q : k = 1
    · subst q; rfl
    · rw [if_neg (by omega), Nat.log2_def, if_pos (by omega), show ((k : Int) / 2).toNat = k / 2 by omega]; omega
  have hl64 : ∀ m : Int, U64 m → 0 ≤ lenI m ∧ lenI m ≤ 64 := by
    intro m hm
    unfold lenI
    split
    · omega
    · rename_i q
      unfold U64 at hm
      have := (Nat.log2_lt (n := m.toNat) (k := 64) (by omega)).2 (by omega)
      omega
  refine ⟨rfl, fun x _ => U64 x.1 ∧ 0 ≤ x.2.1 ∧ x.2.1 + lenI x.1 = lenI a, fun x _ => x.1.toNat, ⟨h, Int.le_refl 0, by show 0 + lenI a = lenI a; omega⟩, ?_⟩
  rintro ⟨m, n, ⟨⟩⟩ _ ⟨hm, hn, he⟩
  dsimp only at hm hn he ⊢
  have ha := hl64 a h
  rintro _ rfl
  refine Br.intro (fun e => ?_) fun e => ?_
  · have e : 0 < m := of_decide_eq_true e
    have hx := hlen m e
    unfold U64 at hm
    have h2 : U64 (m / 2) := ⟨by omega, by omega⟩
    have hy := hl64 _ h2
    rw [Int.tdiv_eq_ediv_of_nonneg (by omega), wu _ h2, wi (x := n + 1) ⟨by omega, by omega⟩]
    exact ⟨by decide, rfl, ⟨h2, by omega, by omega⟩, by omega⟩
  · have e : ¬ m > 0 := of_decide_eq_false e
    have z : m = 0 := by unfold U64 at hm; omega
    subst z
    refine congrArg r1 ?_
    have : lenI 0 = 0 := rfl
    omega
def Fx_ref02_down := fun (a b : Int) (post : Int × Int × Unit → Prop) => ∀ (a_1 : Bool), a_1 = decide (b > (63 : Int)) → Br a_1 (∀ (a_2 : Bool), a_2 = (a == (0 : Int)) → Br a_2
  (post ((0 : Int), (0 : Int), ())) (post ((0 : Int), (1 : Int), ()))) (∃ (h : (0 : Int) ≤ IntKind.u64.wrap b), ∃ (h : (0 : Int) ≤ IntKind.u64.wrap b), ∃ (h : (0 : Int) ≤
  IntKind.u64.wrap (IntKind.i64.wrap (b - (1 : Int)))), ∀ (a_2 : Bool), a_2 = (IntKind.u64.wrap (a - IntKind.u64.wrap (a.fdiv ((2 : Int) ^ Min.min (IntKind.u64.wrap b).toNat
  IntKind.u64.bits) * (2 : Int) ^ Min.min (IntKind.u64.wrap b).toNat IntKind.u64.bits)) == (0 : Int)) → Br a_2 (post (a.fdiv ((2 : Int) ^ Min.min (IntKind.u64.wrap b).toNat
  IntKind.u64.bits), (0 : Int), ())) (∀ (a_3 : Bool), a_3 = decide (IntKind.u64.wrap (a - IntKind.u64.wrap (a.fdiv ((2 : Int) ^ Min.min (IntKind.u64.wrap b).toNat IntKind.u64.bits)
  * (2 : Int) ^ Min.min (IntKind.u64.wrap b).toNat IntKind.u64.bits)) < IntKind.u64.wrap ((1 : Int) * (2 : Int) ^ Min.min (IntKind.u64.wrap (IntKind.i64.wrap (b - (1 : Int)))).toNat
  IntKind.u64.bits)) → Br a_3 (post (a.fdiv ((2 : Int) ^ Min.min (IntKind.u64.wrap b).toNat IntKind.u64.bits), (1 : Int), ())) (∀ (a_4 : Bool), a_4 = (IntKind.u64.wrap (a -
  IntKind.u64.wrap (a.fdiv ((2 : Int) ^ Min.min (IntKind.u64.wrap b).toNat IntKind.u64.bits) * (2 : Int) ^ Min.min (IntKind.u64.wrap b).toNat IntKind.u64.bits)) == IntKind.u64.wrap
  ((1 : Int) * (2 : Int) ^ Min.min (IntKind.u64.wrap (IntKind.i64.wrap (b - (1 : Int)))).toNat IntKind.u64.bits)) → Br a_4 (post (a.fdiv ((2 : Int) ^ Min.min (IntKind.u64.wrap
  b).toNat IntKind.u64.bits), (2 : Int), ())) (post (a.fdiv ((2 : Int) ^ Min.min (IntKind.u64.wrap b).toNat IntKind.u64.bits), (3 : Int), ())))))
theorem Lx_ref02_down (a : Int) (b : Int) (h : WDown a b) : Fx_ref02_down  a b (fun r => r = downR a b) := by
  obtain ⟨a0, a1, b0, b1, b2⟩ := h
  obtain ⟨x, rfl⟩ : ∃ x : Nat, a = x := ⟨a.toNat, by omega⟩
  obtain ⟨k, rfl⟩ : ∃ k : Nat, b = k := ⟨b.toNat, by omega⟩
  have hd : downR (x : Int) (k : Int) = (((x / 2 ^ k : Nat) : Int), restI x k, ()) := by
    unfold downR; rw [Int.toNat_natCast, Int.toNat_natCast]
  have hp : 0 < 2 ^ k := Nat.two_pow_pos k
  rw [hd]
  rintro _ rfl
  refine Br.intro (fun e => ?_) fun e => ?_
  · have e : (63 : Int) < k := of_decide_eq_true e
    have hk : 2 ^ 63 ≤ 2 ^ k := Nat.pow_le_pow_right (by decide) (by omega)
    have hx : x < 2 ^ 62 := by omega
    have h62 : (2 : Nat) ^ 63 = 2 * 2 ^ 62 := by decide
    have hm : x % 2 ^ k = x := Nat.mod_eq_of_lt (by omega)
    have hq : x / 2 ^ k = 0 := Nat.div_eq_of_lt (by omega)
    rintro _ rfl
    refine Br.intro (fun f => ?_) fun f => ?_
    · have f : (x : Int) = 0 := eq_of_beq f
      rw [hq]; unfold restI; rw [hm, if_pos (by omega)]; rfl
    · have f : x ≠ 0 := by intro q; rw [q] at f; cases f
      rw [hq]; unfold restI; rw [hm, if_neg f, if_pos (by omega)]; rfl
  · have e : ¬ (63 : Int) < k := of_decide_eq_false e
    obtain ⟨j, rfl⟩ : ∃ j, k = j + 1 := ⟨k - 1, by omega⟩
    have w1 : IntKind.u64.wrap ((j + 1 : Nat) : Int) = ((j + 1 : Nat) : Int) := wu1 ⟨by omega, by omega⟩
    have w2 : IntKind.i64.wrap (((j + 1 : Nat) : Int) - 1) = (j : Int) := by rw [wi ⟨by omega, by omega⟩]; omega
    have w3 : IntKind.u64.wrap (j : Int) = (j : Int) := wu1 ⟨by omega, by omega⟩
    have m1 : Min.min (j + 1) IntKind.u64.bits = j + 1 := Nat.min_eq_left (by show j + 1 ≤ 64; omega)
    have m2 : Min.min j IntKind.u64.bits = j := Nat.min_eq_left (by show j ≤ 64; omega)
    have c1 : (2 : Int) ^ (j + 1) = ((2 ^ (j + 1) : Nat) : Int) := (Int.natCast_pow 2 (j + 1)).symm
    have c2 : (2 : Int) ^ j = ((2 ^ j : Nat) : Int) := (Int.natCast_pow 2 j).symm
    have hs : 2 ^ (j + 1) = 2 * 2 ^ j := by rw [Nat.pow_succ]; omega
    have hj : 2 ^ j ≤ 2 ^ 62 := Nat.pow_le_pow_right (by decide) (by omega)
    have h62 : (2 : Nat) ^ 62 = 4611686018427387904 := by decide
    have fd : Int.fdiv (x : Int) ((2 ^ (j + 1) : Nat) : Int) = ((x / 2 ^ (j + 1) : Nat) : Int) := by
      rw [Int.fdiv_eq_ediv_of_nonneg _ (by omega)]; rfl
    rw [w1, w2, w3, Int.toNat_natCast, Int.toNat_natCast, m1, m2, c1, c2, fd]
    have hdm := Nat.div_add_mod x (2 ^ (j + 1))
    have hml := Nat.mod_lt x hp
    have hmul : ((x / 2 ^ (j + 1) : Nat) : Int) * ((2 ^ (j + 1) : Nat) : Int) = ((2 ^ (j + 1) * (x / 2 ^ (j + 1)) : Nat) : Int) := by rw [← Int.natCast_mul, Nat.mul_comm]
    rw [hmul]
    generalize hQ : 2 ^ (j + 1) * (x / 2 ^ (j + 1)) = Q at *
    generalize hR : x % 2 ^ (j + 1) = R at *
    have w4 : IntKind.u64.wrap (Q : Int) = Q := wu1 ⟨by omega, by omega⟩
    have w5 : IntKind.u64.wrap ((x : Int) - Q) = R := by rw [wu1 ⟨by omega, by omega⟩]; omega
    have w6 : IntKind.u64.wrap (1 * ((2 ^ j : Nat) : Int)) = ((2 ^ j : Nat) : Int) := by rw [Int.one_mul]; exact wu1 ⟨by omega, by omega⟩
    rw [w4, w5, w6]
    refine ⟨by omega, by omega, by omega, ?_⟩
    have rr : restI x (j + 1) = if R = 0 then 0 else if 2 * R < 2 ^ (j + 1) then 1 else if 2 * R = 2 ^ (j + 1) then 2 else 3 := by unfold restI; rw [hR]
    rw [rr, hs]
    rintro _ rfl
    refine Br.intro (fun f => ?_) fun f => ?_
    · have f : (R : Int) = 0 := eq_of_beq f
      rw [if_pos (by omega)]
    have f : R ≠ 0 := by intro q; rw [q] at f; cases f
    rw [if_neg f]
    rintro _ rfl
    refine Br.intro (fun g => ?_) fun g => ?_
    · have g := of_decide_eq_true g
      rw [if_pos (by omega)]
    have g := of_decide_eq_false g
    rw [if_neg (by omega)]
    rintro _ rfl
    refine Br.intro (fun g2 => ?_) fun g2 => ?_
    · have g2 : (R : Int) = ((2 ^ j : Nat) : Int) := eq_of_beq g2
      rw [if_pos (by omega)]
    · have g2 : R ≠ 2 ^ j := by intro q; rw [q] at g2; simp at g2
      rw [if_neg (by omega)]
def Fx_ref02_near := fun (a b : Int) (post : Int × Unit → Prop) => ∃ (h : WDown a b), ∀ (a_1 : Bool), a_1 = ((downR a b).snd.fst == (3 : Int)) → Br a_1 (post (IntKind.u64.wrap
  ((downR a b).fst + (1 : Int)), ())) (∀ (a_2 : Bool), a_2 = ((downR a b).snd.fst == (2 : Int)) → Br a_2 (∃ (h : (2 : Int) ≠ (0 : Int)), ∀ (a_3 : Bool), a_3 = ((downR a b).fst.tmod
  (2 : Int) == (1 : Int)) → Br a_3 (post (IntKind.u64.wrap ((downR a b).fst + (1 : Int)), ())) (post ((downR a b).fst, ()))) (post ((downR a b).fst, ())))
theorem Lx_ref02_near (a : Int) (b : Int) (h : WDown a b) : Fx_ref02_near  a b (fun r => r = cutR a b) := by
  obtain ⟨a0, a1, b0, b1, b2⟩ := id h
  obtain ⟨x, rfl⟩ : ∃ x : Nat, a = x := ⟨a.toNat, by omega⟩
  obtain ⟨k, rfl⟩ : ∃ k : Nat, b = k := ⟨b.toNat, by omega⟩
  have hd : downR (x : Int) (k : Int) = (((x / 2 ^ k : Nat) : Int), restI x k, ()) := by
    unfold downR; rw [Int.toNat_natCast, Int.toNat_natCast]
  have hc : cutR (x : Int) (k : Int) = (((cutE x k : Nat) : Int), ()) := by
    unfold cutR; rw [Int.toNat_natCast, Int.toNat_natCast]; rfl
  have hq : x / 2 ^ k ≤ x / 2 := Nat.div_le_div_left (by have := Nat.pow_le_pow_right (n := 2) (by decide) (show 1 ≤ k by omega); omega) (by decide)
  generalize hQ : x / 2 ^ k = Q at *
  have w1 : IntKind.u64.wrap ((Q : Int) + 1) = ((Q + 1 : Nat) : Int) := by rw [wu1 ⟨by omega, by omega⟩]; omega
  have tm : (Q : Int).tmod 2 = ((Q % 2 : Nat) : Int) := by rw [Int.tmod_eq_emod_of_nonneg (by omega)]; omega
  refine ⟨h, ?_⟩
  rw [hd, hc]
  dsimp only
  rw [w1, tm]
  have r3 : restI x k = 3 → 2 ^ k < 2 * (x % 2 ^ k) := by
    unfold restI; split
    · intro q; cases q
    · split
      · intro q; cases q
      · split
        · intro q; cases q
        · intro _; omega
  have r2 : restI x k = 2 → 2 ^ k = 2 * (x % 2 ^ k) := by
    unfold restI; split
    · intro q; cases q
    · split
      · intro q; cases q
      · split
        · intro _; omega
        · intro q; cases q
  have r01 : restI x k ≠ 3 → restI x k ≠ 2 → 2 * (x % 2 ^ k) < 2 ^ k := by
    have := Nat.two_pow_pos k
    unfold restI; split
    · intro _ _; omega
    · split
      · intro _ _; omega
      · split
        · intro _ q; exact absurd rfl q
        · intro q; exact absurd rfl q
  rintro _ rfl
  refine Br.intro (fun e => ?_) fun e => ?_
  · have e := r3 (eq_of_beq e)
    unfold cutE; rw [hQ, if_pos (.inl e)]
  have e : restI x k ≠ 3 := by intro q; rw [q] at e; cases e
  rintro _ rfl
  refine Br.intro (fun f => ?_) fun f => ?_
  · have f := r2 (eq_of_beq f)
    refine ⟨by decide, ?_⟩
    rintro _ rfl
    refine Br.intro (fun g => ?_) fun g => ?_
    · have g : ((Q % 2 : Nat) : Int) = 1 := eq_of_beq g
      unfold cutE; rw [hQ, if_pos (.inr ⟨f, by omega⟩)]
    · have g : Q % 2 ≠ 1 := by intro q; rw [q] at g; cases g
      unfold cutE; rw [hQ, if_neg (by omega)]; rfl
  · have f : restI x k ≠ 2 := by intro q; rw [q] at f; cases f
    have := r01 e f
    unfold cutE; rw [hQ, if_neg (by omega)]; rfl
def Fx_ref02_small := fun (m e p l f : Int) (post : Int × Unit → Prop) => ∀ (a : Bool), a = (m == (0 : Int)) → Br a (post ((0 : Int), ())) (∃ (h : U64 m), ∃ (post_1 : Int × Unit →
  Unit → Prop), (∀ (a : Bool), a = decide (IntKind.i64.wrap (IntKind.i64.wrap ((lenR m).fst + e) - IntKind.i64.wrap (p + (1 : Int))) < l) → Br a (HIs [] [] ∧ post_1 (l, ()) ()) (HIs
  [] [] ∧ post_1 (IntKind.i64.wrap (IntKind.i64.wrap ((lenR m).fst + e) - IntKind.i64.wrap (p + (1 : Int))), ()) ())) ∧ ∀ (x : Int × Unit) (y : Unit), post_1 x y → ∃ (post_2 : Int ×
  Unit → Unit → Prop), (∀ (a : Bool), a = decide (e > x.fst) → Br a (∃ (h : (0 : Int) ≤ IntKind.u64.wrap (IntKind.i64.wrap (e - x.fst))), HIs [] [] ∧ post_2 (IntKind.u64.wrap (m *
  (2 : Int) ^ Min.min (IntKind.u64.wrap (IntKind.i64.wrap (e - x.fst))).toNat IntKind.u64.bits), ()) ()) (HIs [] [] ∧ post_2 (m, ()) ())) ∧ ∀ (x_2 : Int × Unit) (y : Unit), post_2
  x_2 y → ∃ (post_3 : Int × Unit → Unit → Prop), (∀ (a : Bool), a = decide (e < x.fst) → Br a (∃ (h : WDown m (IntKind.i64.wrap (x.fst - e))), HIs [] [] ∧ post_3 ((cutR m
  (IntKind.i64.wrap (x.fst - e))).fst, ()) ()) (HIs [] [] ∧ post_3 (x_2.fst, ()) ())) ∧ ∀ (x_4 : Int × Unit) (y : Unit), post_3 x_4 y → ∀ (a : Bool), a = decide (IntKind.i64.wrap
  (x.fst - l) ≥ (1048576 : Int)) → Br a (post (f, ())) (∃ (h : (0 : Int) ≤ IntKind.u64.wrap p), ∀ (a : Bool), a = decide (IntKind.u64.wrap (IntKind.u64.wrap (IntKind.u64.wrap
  (IntKind.i64.wrap (x.fst - l)) * (2 : Int) ^ Min.min (IntKind.u64.wrap p).toNat IntKind.u64.bits) + x_4.fst) > f) → Br a (post (f, ())) (post (IntKind.u64.wrap (IntKind.u64.wrap
  (IntKind.u64.wrap (IntKind.i64.wrap (x.fst - l)) * (2 : Int) ^ Min.min (IntKind.u64.wrap p).toNat IntKind.u64.bits) + x_4.fst), ()))))
theorem Lx_ref02_small (m : Int) (e : Int) (p : Int) (l : Int) (f : Int) (h : WSmall m e p l f) : Fx_ref02_small  m e p l f (fun r => r = smallR m e p l f) := by
  obtain ⟨m0, m1, e0, e1, p0, p1, l0, l1, f0, f1⟩ := h
  have wf64 : U64 m := ⟨m0, by omega⟩
  rintro _ rfl
  refine Br.intro (fun q => ?_) fun q => ?_
  · have q : m = 0 := eq_of_beq q
    refine congrArg r1 ?_
    unfold smallI; rw [if_pos q]
  have mz : m ≠ 0 := by intro r; rw [r] at q; cases q
  obtain ⟨n1, n2, n3⟩ := len_rng (m := m) (by omega) (k := 64) (by omega)
  have n62 : m < 4611686018427387904 → lenI m ≤ 62 := fun h => (len_rng (m := m) (by omega) (k := 62) (by omega)).2.1
  have val : smallI m e p l f = min ((max (lenI m + e - (p + 1)) l - l) * 2 ^ p.toNat + (cutE (m.toNat * 2 ^ (e - max (lenI m + e - (p + 1)) l).toNat) (max (lenI m + e - (p + 1)) l - e).toNat : Nat)) f := by
    unfold smallI; rw [if_neg mz]
  have w1 : IntKind.i64.wrap (IntKind.i64.wrap ((lenR m).1 + e) - IntKind.i64.wrap (p + 1)) = lenI m + e - (p + 1) := by
    show IntKind.i64.wrap (IntKind.i64.wrap (lenI m + e) - IntKind.i64.wrap (p + 1)) = _
    rw [wi (x := lenI m + e) ⟨by omega, by omega⟩, wi (x := p + 1) ⟨by omega, by omega⟩, wi ⟨by omega, by omega⟩]
  rw [w1]
  obtain ⟨u, hu⟩ : ∃ u, max (lenI m + e - (p + 1)) l = u := ⟨_, rfl⟩
  rw [hu] at val
  have u1 : l ≤ u ∧ lenI m + e - (p + 1) ≤ u ∧ (u = l ∨ u = lenI m + e - (p + 1)) := by omega
  refine ⟨wf64, fun x _ => x.1 = u, ?_, ?_⟩
  · rintro _ rfl
    refine Br.intro (fun g => ⟨rfl, ?_⟩) fun g => ⟨rfl, ?_⟩
    · have g := of_decide_eq_true g; show l = u; omega
    · have g := of_decide_eq_false g; show lenI m + e - (p + 1) = u; omega
  rintro ⟨v, ⟨⟩⟩ _ hv
  have hv : v = u := hv
  rw [hv]
  dsimp only
  have sh : ∀ d : Nat, (d : Int) ≤ p + 1 - lenI m → m.toNat * 2 ^ d < 9007199254740992 := by
    intro d hd
    have a1 : m.toNat * 2 ^ d < 2 ^ (lenI m).toNat * 2 ^ d := Nat.mul_lt_mul_of_pos_right n3 (Nat.two_pow_pos d)
    rw [← Nat.pow_add] at a1
    have a2 : 2 ^ ((lenI m).toNat + d) ≤ 2 ^ 53 := Nat.pow_le_pow_right (by decide) (by omega)
    have a3 : (2 : Nat) ^ 53 = 9007199254740992 := by decide
    omega
  refine ⟨fun x _ => x.1 = ((m.toNat * 2 ^ (e - u).toNat : Nat) : Int), ?_, ?_⟩
  · rintro _ rfl
    refine Br.intro (fun g => ?_) fun g => ⟨rfl, ?_⟩
    · have g : e > u := of_decide_eq_true g
      have w2 : IntKind.i64.wrap (e - u) = e - u := wi ⟨by omega, by omega⟩
      have w3 : IntKind.u64.wrap (e - u) = e - u := wu1 ⟨by omega, by omega⟩
      rw [w2, w3]
      refine ⟨by omega, rfl, ?_⟩
      have mn : Min.min (e - u).toNat IntKind.u64.bits = (e - u).toNat := Nat.min_eq_left (by show _ ≤ 64; omega)
      have c2 : (2 : Int) ^ (e - u).toNat = ((2 ^ (e - u).toNat : Nat) : Int) := (Int.natCast_pow 2 _).symm
      have hb := sh (e - u).toNat (by omega)
      show IntKind.u64.wrap (m * 2 ^ Min.min (e - u).toNat IntKind.u64.bits) = _
      rw [mn, c2]
      have hm : m = (m.toNat : Int) := by omega
      rw [hm, ← Int.natCast_mul, Int.toNat_natCast, wu1 ⟨by omega, by omega⟩]
    · have g : ¬ e > u := of_decide_eq_false g
      show m = _
      rw [show (e - u).toNat = 0 by omega, Nat.pow_zero, Nat.mul_one]; omega
  rintro ⟨_, ⟨⟩⟩ _ rfl
  dsimp only
  obtain ⟨K, hK⟩ : ∃ K, cutE (m.toNat * 2 ^ (e - u).toNat) (u - e).toNat = K := ⟨_, rfl⟩
  rw [hK] at val
  have hKm : K ≤ 9223372036854775808 ∧ (m < 4611686018427387904 → K < 4611686018427387904) := by
    rw [← hK]
    by_cases g : e < u
    · rw [show (e - u).toNat = 0 by omega, Nat.pow_zero, Nat.mul_one]
      have := cutE_self m.toNat (u - e).toNat
      omega
    · rw [show (u - e).toNat = 0 by omega, cutE_zero]
      have := sh (e - u).toNat (by omega)
      omega
  refine ⟨fun x _ => x.1 = (K : Int), ?_, ?_⟩
  · rintro _ rfl
    refine Br.intro (fun g => ?_) fun g => ⟨rfl, ?_⟩
    · have g : e < u := of_decide_eq_true g
      have w2 : IntKind.i64.wrap (u - e) = u - e := wi ⟨by omega, by omega⟩
      rw [w2]
      refine ⟨⟨m0, by omega, by omega, by omega, by omega⟩, rfl, ?_⟩
      show ((cutE m.toNat (u - e).toNat : Nat) : Int) = _
      rw [← hK, show (e - u).toNat = 0 by omega, Nat.pow_zero, Nat.mul_one]
    · have g : ¬ e < u := of_decide_eq_false g
      show ((m.toNat * 2 ^ (e - u).toNat : Nat) : Int) = _
      rw [← hK, show (u - e).toNat = 0 by omega, cutE_zero]
  rintro ⟨v2, ⟨⟩⟩ _ hv2
  have hv2 : v2 = (K : Int) := hv2
  rw [hv2]
  dsimp only
  have w4 : IntKind.i64.wrap (u - l) = u - l := wi ⟨by omega, by omega⟩
  rw [w4]
  rintro _ rfl
  refine Br.intro (fun g => absurd (of_decide_eq_true g) (by omega)) fun _ => ?_
  have w5 : IntKind.u64.wrap p = p := wu1 ⟨by omega, by omega⟩
  have w6 : IntKind.u64.wrap (u - l) = u - l := wu1 ⟨by omega, by omega⟩
  have mp : Min.min p.toNat IntKind.u64.bits = p.toNat := Nat.min_eq_left (by show _ ≤ 64; omega)
  have cp : (2 : Int) ^ p.toNat = ((2 ^ p.toNat : Nat) : Int) := (Int.natCast_pow 2 _).symm
  have pb : 2 ^ p.toNat ≤ 4503599627370496 := by
    have a : 2 ^ p.toNat ≤ 2 ^ 52 := Nat.pow_le_pow_right (by decide) (by omega)
    exact Nat.le_trans a (by decide)
  rw [w5, w6, mp]
  rw [cp] at val ⊢
  generalize 2 ^ p.toNat = B at *
  have ub : (u - l) * (B : Int) ≤ (u - l) * 4503599627370496 := Int.mul_le_mul_of_nonneg_left (by omega) (by omega)
  have u0 : 0 ≤ (u - l) * (B : Int) := Int.mul_nonneg (by omega) (by omega)
  generalize hV : (u - l) * (B : Int) = V at *
  have w7 : IntKind.u64.wrap V = V := wu1 ⟨by omega, by omega⟩
  have w8 : IntKind.u64.wrap (V + K) = V + K := wu1 ⟨by omega, by omega⟩
  rw [w7, w8]
  refine ⟨by omega, ?_⟩
  rintro _ rfl
  refine Br.intro (fun g => ?_) fun g => ?_
  · have g := of_decide_eq_true g
    exact congrArg r1 (by rw [val]; omega)
  · have g := of_decide_eq_false g
    exact congrArg r1 (by rw [val]; omega)
def Fx_ref02_FromInt := fun (a : Int) (post : Nat × Unit → Prop) => ∀ (a_1 : Bool), a_1 = decide (a < (0 : Int)) → Br a_1 (∃ (h : WSmall (IntKind.u64.wrap ((0 : Int) -
  IntKind.u64.wrap a)) (0 : Int) (52 : Int) (-1074 : Int) (9218868437227405312 : Int)), ∃ (h : True), post ((fromR (IntKind.u64.wrap ((9223372036854775808 : Int) + (smallR
  (IntKind.u64.wrap ((0 : Int) - IntKind.u64.wrap a)) (0 : Int) (52 : Int) (-1074 : Int) (9218868437227405312 : Int)).fst))).fst, ())) (∃ (h : WSmall (IntKind.u64.wrap a) (0 : Int)
  (52 : Int) (-1074 : Int) (9218868437227405312 : Int)), ∃ (h : True), post ((fromR (IntKind.u64.wrap ((0 : Int) + (smallR (IntKind.u64.wrap a) (0 : Int) (52 : Int) (-1074 : Int)
  (9218868437227405312 : Int)).fst))).fst, ()))
theorem Lx_ref02_FromInt (a : Int) (h : I64 a) : Fx_ref02_FromInt  a (fun r => r = ofIR a) := by
  have key : ∀ x : Nat, x ≤ 9223372036854775808 → WSmall (x : Int) 0 52 (-1074) 9218868437227405312 ∧ (smallR (x : Int) 0 52 (-1074) 9218868437227405312).1 = ((rnd x 0 : Nat) : Int) := by
    intro x hx
    refine ⟨⟨by omega, by omega, by omega, by omega, by omega, by omega, by omega, by omega, by omega, by omega⟩, ?_⟩
    show smallI (x : Int) 0 52 (-1074) 9218868437227405312 = _
    unfold smallI rnd
    by_cases z : x = 0
    · rw [if_pos (by omega), if_pos z]; rfl
    rw [if_neg (by omega), if_neg z]
    have hl : lenI (x : Int) = (x.log2 : Int) + 1 := by unfold lenI; rw [if_neg (by omega), Int.toNat_natCast]
    have hL : lastP x 0 = max (lenI (x : Int) + 0 - (52 + 1)) (-1074) := by unfold lastP; rw [hl]; congr 1; omega
    rw [← hL, Int.toNat_natCast]
    have b1 : (2 : Int) ^ (52 : Int).toNat = ((bin : Nat) : Int) := by decide
    have l0 : -1074 ≤ lastP x 0 := by unfold lastP; omega
    rw [b1, show lastP x 0 - -1074 = (((lastP x 0 + 1074).toNat : Nat) : Int) by omega, ← Int.natCast_mul, ← Int.natCast_add]
    unfold infR
    omega
  have ofneg : a < 0 → ofI a = 9223372036854775808 + rnd a.natAbs 0 := by
    intro q
    show Ieee.double.nearest (decide (a < 0)) a.natAbs 0 = _
    rw [nearest_eq, decide_eq_true q]
    unfold Ieee.Format.word
    rw [if_pos rfl, show Ieee.double.signWeight = 9223372036854775808 by decide]
  have ofpos : ¬ a < 0 → ofI a = rnd a.natAbs 0 := by
    intro q
    show Ieee.double.nearest (decide (a < 0)) a.natAbs 0 = _
    rw [nearest_eq, decide_eq_false q]
    unfold Ieee.Format.word
    rw [if_neg (by decide)]
  obtain ⟨h1, h2⟩ := h
  have hrl := rnd_le a.natAbs 0
  unfold infR at hrl
  rintro _ rfl
  refine Br.intro (fun e => ?_) fun e => ?_
  · have e : a < 0 := of_decide_eq_true e
    have hw : IntKind.u64.wrap (0 - IntKind.u64.wrap a) = (a.natAbs : Int) := by rw [IntKind.wrap_u64, IntKind.wrap_u64]; omega
    obtain ⟨k1, k2⟩ := key a.natAbs (by omega)
    rw [hw]
    refine ⟨k1, trivial, congrArg r1 ?_⟩
    rw [k2, wu1 ⟨by omega, by omega⟩, ofneg e]
    show (9223372036854775808 + ((rnd a.natAbs 0 : Nat) : Int)).toNat = _
    omega
  · have e : ¬ a < 0 := of_decide_eq_false e
    have hw : IntKind.u64.wrap a = (a.natAbs : Int) := by rw [IntKind.wrap_u64]; omega
    obtain ⟨k1, k2⟩ := key a.natAbs (by omega)
    rw [hw]
    refine ⟨k1, trivial, congrArg r1 ?_⟩
    rw [k2, wu1 ⟨by omega, by omega⟩, ofpos e]
    show (0 + ((rnd a.natAbs 0 : Nat) : Int)).toNat = _
    omega
def Fx_ref02_parts := fun (a : Nat) (post : Bool × Int × Int × Int × Unit → Prop) => ∃ (h : True), ∃ (h : (0 : Int) ≤ (63 : Int)), ∀ (a_1 : Bool), a_1 = ((bitsR a).fst.fdiv ((2 :
  Int) ^ Min.min (Int.toNat (63 : Int)) IntKind.u64.bits) == (1 : Int)) → ∃ (h : (0 : Int) ≤ (52 : Int)), ∃ (h : (2048 : Int) ≠ (0 : Int)), ∃ (h : (4503599627370496 : Int) ≠ (0 :
  Int)), ∀ (a_2 : Bool), a_2 = (IntKind.i64.wrap (((bitsR a).fst.fdiv ((2 : Int) ^ Min.min (Int.toNat (52 : Int)) IntKind.u64.bits)).tmod (2048 : Int)) == (2047 : Int)) → Br a_2 (∀
  (a_3 : Bool), a_3 = ((bitsR a).fst.tmod (4503599627370496 : Int) == (0 : Int)) → Br a_3 (post (a_1, (0 : Int), (0 : Int), (1 : Int), ())) (∀ (a_4 : Bool), a_4 = (IntKind.i64.wrap
  (((bitsR a).fst.fdiv ((2 : Int) ^ Min.min (Int.toNat (52 : Int)) IntKind.u64.bits)).tmod (2048 : Int)) == (2047 : Int)) → Br a_4 (post (a_1, (0 : Int), (0 : Int), (2 : Int), ()))
  (∀ (a_5 : Bool), a_5 = (IntKind.i64.wrap (((bitsR a).fst.fdiv ((2 : Int) ^ Min.min (Int.toNat (52 : Int)) IntKind.u64.bits)).tmod (2048 : Int)) == (0 : Int)) → Br a_5 (post (a_1,
  (bitsR a).fst.tmod (4503599627370496 : Int), (-1074 : Int), (0 : Int), ())) (post (a_1, IntKind.u64.wrap ((bitsR a).fst.tmod (4503599627370496 : Int) + (4503599627370496 : Int)),
  IntKind.i64.wrap (IntKind.i64.wrap (((bitsR a).fst.fdiv ((2 : Int) ^ Min.min (Int.toNat (52 : Int)) IntKind.u64.bits)).tmod (2048 : Int)) - (1075 : Int)), (0 : Int), ()))))) (∀
  (a_3 : Bool), a_3 = (IntKind.i64.wrap (((bitsR a).fst.fdiv ((2 : Int) ^ Min.min (Int.toNat (52 : Int)) IntKind.u64.bits)).tmod (2048 : Int)) == (2047 : Int)) → Br a_3 (post (a_1,
  (0 : Int), (0 : Int), (2 : Int), ())) (∀ (a_4 : Bool), a_4 = (IntKind.i64.wrap (((bitsR a).fst.fdiv ((2 : Int) ^ Min.min (Int.toNat (52 : Int)) IntKind.u64.bits)).tmod (2048 :
  Int)) == (0 : Int)) → Br a_4 (post (a_1, (bitsR a).fst.tmod (4503599627370496 : Int), (-1074 : Int), (0 : Int), ())) (post (a_1, IntKind.u64.wrap ((bitsR a).fst.tmod
  (4503599627370496 : Int) + (4503599627370496 : Int)), IntKind.i64.wrap (IntKind.i64.wrap (((bitsR a).fst.fdiv ((2 : Int) ^ Min.min (Int.toNat (52 : Int)) IntKind.u64.bits)).tmod
  (2048 : Int)) - (1075 : Int)), (0 : Int), ()))))
theorem Lx_ref02_parts (a : Nat) (h : W64 a) : Fx_ref02_parts  a (fun r => r = partsR a) := by
  have h : a < 18446744073709551616 := h
  have e63 : (2 : Int) ^ Min.min (Int.toNat (63 : Int)) IntKind.u64.bits = ((9223372036854775808 : Nat) : Int) := by decide
  have e52 : (2 : Int) ^ Min.min (Int.toNat (52 : Int)) IntKind.u64.bits = ((4503599627370496 : Nat) : Int) := by decide
  have f63 : Int.fdiv (a : Int) ((9223372036854775808 : Nat) : Int) = ((a / 9223372036854775808 : Nat) : Int) := by
    rw [Int.fdiv_eq_ediv_of_nonneg _ (by omega)]; rfl
  have f52 : Int.fdiv (a : Int) ((4503599627370496 : Nat) : Int) = ((a / 4503599627370496 : Nat) : Int) := by
    rw [Int.fdiv_eq_ediv_of_nonneg _ (by omega)]; rfl
  have ht : ((a / 4503599627370496 : Nat) : Int).tmod 2048 = ((a / 4503599627370496 % 2048 : Nat) : Int) := by
    rw [Int.tmod_eq_emod_of_nonneg (by omega)]; omega
  have hF : a / 4503599627370496 % 2048 < 2048 := Nat.mod_lt _ (by decide)
  have wF : IntKind.i64.wrap ((a / 4503599627370496 % 2048 : Nat) : Int) = ((a / 4503599627370496 % 2048 : Nat) : Int) := wi ⟨by omega, by omega⟩
  have hM : (a : Int).tmod 4503599627370496 = ((a % 4503599627370496 : Nat) : Int) := by
    rw [Int.tmod_eq_emod_of_nonneg (by omega)]; omega
  have hr : rungOf a = a / 4503599627370496 % 2048 * 4503599627370496 + a % 4503599627370496 := by unfold rungOf sw; omega
  have hs : (((a / 9223372036854775808 : Nat) : Int) == 1) = sgn a := by
    unfold sgn sw
    rw [show a / 9223372036854775808 % 2 = a / 9223372036854775808 by omega]
    by_cases q : a / 9223372036854775808 = 1
    · rw [q]; rfl
    · have q0 : a / 9223372036854775808 = 0 := by omega
      rw [q0]; rfl
  have hb : (bitsR a).1 = (a : Int) := rfl
  refine ⟨trivial, by decide, ?_⟩
  rw [hb, e63, e52, f63, f52, ht, wF, hM, hs]
  generalize a / 4503599627370496 % 2048 = Fd at *
  have hMl : a % 4503599627370496 < 4503599627370496 := Nat.mod_lt _ (by decide)
  generalize a % 4503599627370496 = M at *
  have fin : ∀ m e w, (if rungOf a < infR then (magOf (rungOf a) : Int) else 0) = m → (if rungOf a < infR then placeOf (rungOf a) else 0) = e → whatI a = w → (sgn a, m, e, w, ()) = partsR a := by
    rintro _ _ _ rfl rfl rfl; rfl
  have sub : Fd = 0 → ((sgn a, (M : Int), (-1074 : Int), (0 : Int), ()) : Bool × Int × Int × Int × Unit) = partsR a := by
    intro q
    have r1' : rungOf a = M := by rw [hr, q]; omega
    have r2' : M < infR := by unfold infR; omega
    refine fin _ _ _ ?_ ?_ ?_
    · rw [r1', if_pos r2']; unfold magOf; rw [if_pos (by unfold bin; omega)]
    · rw [r1', if_pos r2']; unfold placeOf; rw [if_pos (by unfold bin; omega)]
    · unfold whatI; rw [r1', if_pos r2']
  have nor : Fd ≠ 0 → Fd ≠ 2047 → ((sgn a, IntKind.u64.wrap ((M : Int) + 4503599627370496), IntKind.i64.wrap ((Fd : Int) - 1075), (0 : Int), ()) : Bool × Int × Int × Int × Unit) = partsR a := by
    intro q q2
    have r2' : rungOf a < infR := by rw [hr]; unfold infR; omega
    have r3' : ¬ rungOf a < bin := by rw [hr]; unfold bin; omega
    have d1 : rungOf a / bin = Fd := by rw [hr]; unfold bin; omega
    have d2 : rungOf a % bin = M := by rw [hr]; unfold bin; omega
    rw [wu1 (x := (M : Int) + 4503599627370496) ⟨by omega, by omega⟩, wi (x := (Fd : Int) - 1075) ⟨by omega, by omega⟩]
    refine fin _ _ _ ?_ ?_ ?_
    · rw [if_pos r2']; unfold magOf; rw [if_neg r3', d2]; unfold bin; omega
    · rw [if_pos r2']; unfold placeOf; rw [if_neg r3', d1]; omega
    · unfold whatI; rw [if_pos r2']
  rintro _ rfl
  refine ⟨by decide, by decide, by decide, ?_⟩
  rintro _ rfl
  refine Br.intro (fun e => ?_) fun e => ?_
  · have e : (Fd : Int) = 2047 := eq_of_beq e
    have r2' : ¬ rungOf a < infR := by rw [hr]; unfold infR; omega
    rintro _ rfl
    refine Br.intro (fun f => ?_) fun f => ?_
    · have f : (M : Int) = 0 := eq_of_beq f
      refine fin _ _ _ (if_neg r2') (if_neg r2') ?_
      unfold whatI; rw [if_neg r2', if_pos (by rw [hr]; unfold infR; omega)]
    · have f : M ≠ 0 := by intro q; rw [q] at f; cases f
      refine named_true (by rw [e]; rfl) ?_
      refine fin _ _ _ (if_neg r2') (if_neg r2') ?_
      unfold whatI; rw [if_neg r2', if_neg (by rw [hr]; unfold infR; omega)]
  · have e : Fd ≠ 2047 := by intro q; rw [q] at e; cases e
    refine named_false (by simp; omega) ?_
    rintro _ rfl
    refine Br.intro (fun f => ?_) fun f => ?_
    · have f : (Fd : Int) = 0 := eq_of_beq f
      exact sub (by omega)
    · have f : Fd ≠ 0 := by intro q; rw [q] at f; cases f
      exact nor f e
def Fx_ref02_To32 := fun (a : Nat) (post : Int × Unit → Prop) => ∃ (h : W64 a), ∀ (a_1 : Bool), a_1 = ((partsR a).snd.snd.snd.fst == (2 : Int)) → Br a_1 (post ((2143289344 : Int),
  ())) (∀ (a_2 : Bool), a_2 = ((partsR a).snd.snd.snd.fst == (0 : Int)) → Br a_2 (∃ (h : WSmall (partsR a).snd.fst (partsR a).snd.snd.fst (23 : Int) (-149 : Int) (2139095040 :
  Int)), Br (partsR a).fst (post (IntKind.u32.wrap (IntKind.u64.wrap ((smallR (partsR a).snd.fst (partsR a).snd.snd.fst (23 : Int) (-149 : Int) (2139095040 : Int)).fst + (2147483648
  : Int))), ())) (post (IntKind.u32.wrap (smallR (partsR a).snd.fst (partsR a).snd.snd.fst (23 : Int) (-149 : Int) (2139095040 : Int)).fst, ()))) (Br (partsR a).fst (post
  (IntKind.u32.wrap (IntKind.u64.wrap ((2139095040 : Int) + (2147483648 : Int))), ())) (post (IntKind.u32.wrap (2139095040 : Int), ()))))
theorem Lx_ref02_To32 (a : Nat) (h : W64 a) : Fx_ref02_To32  a (fun r => r = to32R a) := by
  have hsv : ∀ v : Int, 0 ≤ v → v ≤ 2139095040 → IntKind.u32.wrap (IntKind.u64.wrap (v + 2147483648)) = 2147483648 + v ∧ IntKind.u32.wrap v = 0 + v := by
    intro v h0 h1
    rw [wu1 ⟨by omega, by omega⟩, wrap_u32, wrap_u32]
    omega
  have done : ∀ v : Int, 0 ≤ v → v ≤ 2139095040 → to32 a = (if sgn a then 2147483648 else 0) + v → Br (sgn a) ((IntKind.u32.wrap (IntKind.u64.wrap (v + 2147483648)), ()) = to32R a) ((IntKind.u32.wrap v, ()) = to32R a) := by
    intro v h0 h1 h2
    obtain ⟨e1, e2⟩ := hsv v h0 h1
    refine Br.intro (fun q => congrArg r1 ?_) fun q => congrArg r1 ?_
    · rw [e1, h2, q]; rfl
    · rw [e2, h2, q]; rfl
  have ht : ∀ v : Int, isN a = false → (if 5183643170835005440 ≤ rungOf a then 2139095040 else (Ieee.single.write (Ieee.double.read (rungOf a)) : Nat)) = v → to32 a = (if sgn a then 2147483648 else 0) + v := by
    intro v hn hv
    unfold to32; rw [if_neg (c := isN a = true) (by rw [hn]; decide), ← hv]
  refine ⟨h, ?_⟩
  rcases rung_trich a with ⟨hf, hn⟩ | ⟨hi, hn⟩ | ⟨hN, hn⟩
  · have hp : partsR a = (sgn a, (magOf (rungOf a) : Int), placeOf (rungOf a), 0, ()) := by
      unfold partsR whatI; rw [if_pos hf, if_pos hf, if_pos hf]
    rw [hp]
    dsimp only
    have hm := mag_lt (rungOf a)
    have e53 : (2 : Nat) ^ 53 = 9007199254740992 := by decide
    have hpl : -1074 ≤ placeOf (rungOf a) ∧ placeOf (rungOf a) ≤ 971 := by
      unfold placeOf; unfold infR at hf
      split
      · omega
      · unfold bin at *; omega
    have hv : (smallR (magOf (rungOf a) : Int) (placeOf (rungOf a)) 23 (-149) 2139095040).1 = ((Ieee.single.nearest false (magOf (rungOf a)) (placeOf (rungOf a)) : Nat) : Int) := small_single _ _
    have hle : smallI (magOf (rungOf a) : Int) (placeOf (rungOf a)) 23 (-149) 2139095040 ≤ 2139095040 := by
      unfold smallI; split <;> omega
    rw [small_single] at hle
    refine named_false rfl (named_true rfl ⟨⟨by omega, by omega, by omega, by omega, by omega, by omega, by omega, by omega, by omega, by omega⟩, ?_⟩)
    rw [hv]
    refine done _ (by omega) hle (ht _ hn ?_)
    by_cases q : 5183643170835005440 ≤ rungOf a
    · rw [if_pos q, single_big q hf]
    · rw [if_neg q]
      have hi : rungOf (rungOf a) = rungOf a := rung_lo (rung_lt a)
      rw [read_num (by rw [hi]; exact hf), hi, (small_sgn (rung_lt a)).1]; rfl
  · have hp : partsR a = (sgn a, 0, 0, 1, ()) := by
      unfold partsR whatI; rw [if_neg (by omega), if_neg (by omega), if_neg (by omega), if_pos hi]
    rw [hp]
    dsimp only
    refine named_false rfl (named_false rfl (done 2139095040 (by decide) (by decide) (ht _ hn ?_)))
    rw [if_pos (by rw [hi]; unfold infR; omega)]; rfl
  · have hp : partsR a = (sgn a, 0, 0, 2, ()) := by
      unfold partsR whatI; rw [if_neg (by omega), if_neg (by omega), if_neg (by omega), if_neg (by omega)]
    rw [hp]
    dsimp only
    refine named_true rfl (congrArg r1 ?_)
    unfold to32; rw [if_pos hn]
def Fx_ref11_Depth := fun (a b : Int) (post : Nat × Unit → Prop) => ∀ (a_1 : Bool), a_1 = decide (a < (1 : Int)) → Br a_1 (post ((0 : Nat), ())) (∀ (a_2 : Bool), a_2 = decide (b <
  (1 : Int)) → Br a_2 (post ((0 : Nat), ())) (∃ (h : I64 a), ∃ (h : I64 b), ∀ (a_3 : Nat), FRes Go.FloatKind.f64 (Go.FloatKind.f64.format.div (ofIR a).fst (ofIR b).fst) a_3 → post
  (a_3, ())))
theorem Lx_ref11_Depth (a : Int) (b : Int) (h : II a b) : Fx_ref11_Depth  a b (fun r => r = depthR a b) := by
  rintro _ rfl
  refine Br.intro (fun e => ?_) fun e => ?_
  · exact congrArg r1 (by unfold depthQ; rw [if_pos (.inl (of_decide_eq_true e))])
  · rintro _ rfl
    refine Br.intro (fun f => ?_) fun f => ?_
    · exact congrArg r1 (by unfold depthQ; rw [if_pos (.inr (of_decide_eq_true f))])
    · have e := of_decide_eq_false e
      have f := of_decide_eq_false f
      refine ⟨h.1, h.2, fun r hr => congrArg r1 ?_⟩
      rw [div_ofI h.1 (by omega) h.2 hr]
      unfold depthQ; rw [if_neg (by omega)]
end Go.Lift

/- Contracts of functions, of a seat. Own work. -/
set_option linter.unusedVariables false
set_option linter.unusedSimpArgs false
namespace Go.Lift
open Go.Proofs
def Zx_ref02_length : Cx := ⟨tabOf Ztab, conOf [], ZG⟩
theorem Zx_ref02_length_ok : CxOk Tryz.prog Zx_ref02_length := ⟨tabB_sound Ztab_ok, fun f c h => by cases h⟩
theorem Zat_ref02_length : FnAt Tryz.prog 111 Tryz.f111.ntmps Tryz.f111.results.toList (Tryz.f111.body.getD .skip) := ⟨Tryz.f111, Tryz.func111, rfl, rfl, by simp, by decide⟩
theorem Zeq_ref02_length (a : Int) (post : Int × Unit → Prop) : fnEval Zx_ref02_length Zhn_ref02_length Tryz.f111.ntmps Tryz.f111.results.toList (Tryz.f111.body.getD .skip) [.int .u64] [.snap (.int .i64)] (a, ()) post = Fx_ref02_length  a post := by kernel_rfl
theorem Zh_ref02_length : Zq_ref02_length.holds Tryz.prog ZG 111 :=
  detP Zx_ref02_length_ok Zmixed Zhn_ref02_length Zat_ref02_length (F := fun x post => Fx_ref02_length  x.1 post) (fun x post => Zeq_ref02_length x.1 post) fun x h _ => Lx_ref02_length  x.1 h
def Zx_ref02_down : Cx := ⟨tabOf Ztab, conOf [], ZG⟩
theorem Zx_ref02_down_ok : CxOk Tryz.prog Zx_ref02_down := ⟨tabB_sound Ztab_ok, fun f c h => by cases h⟩
theorem Zat_ref02_down : FnAt Tryz.prog 144 Tryz.f144.ntmps Tryz.f144.results.toList (Tryz.f144.body.getD .skip) := ⟨Tryz.f144, Tryz.func144, rfl, rfl, by simp, by decide⟩
theorem Zeq_ref02_down (a : Int) (b : Int) (post : Int × Int × Unit → Prop) : fnEval Zx_ref02_down nHn Tryz.f144.ntmps Tryz.f144.results.toList (Tryz.f144.body.getD .skip) [.int .u64, .int .i64] [.snap (.int .u64), .snap (.int .i64)] (a, b, ()) post = Fx_ref02_down  a b post := by kernel_rfl
theorem Zh_ref02_down : Zq_ref02_down.holds Tryz.prog ZG 144 :=
  detP Zx_ref02_down_ok Zmixed nHn Zat_ref02_down (F := fun x post => Fx_ref02_down  x.1 x.2.1 post) (fun x post => Zeq_ref02_down x.1 x.2.1 post) fun x h _ => Lx_ref02_down  x.1 x.2.1 h
def Zx_ref02_near : Cx := ⟨tabOf Ztab, conOf [(144, Zq_ref02_down)], ZG⟩
theorem Zx_ref02_near_ok : CxOk Tryz.prog Zx_ref02_near := ⟨tabB_sound Ztab_ok, conOf_sound ⟨Zh_ref02_down, trivial⟩⟩
theorem Zat_ref02_near : FnAt Tryz.prog 112 Tryz.f112.ntmps Tryz.f112.results.toList (Tryz.f112.body.getD .skip) := ⟨Tryz.f112, Tryz.func112, rfl, rfl, by simp, by decide⟩
theorem Zeq_ref02_near (a : Int) (b : Int) (post : Int × Unit → Prop) : fnEval Zx_ref02_near nHn Tryz.f112.ntmps Tryz.f112.results.toList (Tryz.f112.body.getD .skip) [.int .u64, .int .i64] [.snap (.int .u64)] (a, b, ()) post = Fx_ref02_near  a b post := by kernel_rfl
theorem Zh_ref02_near : Zq_ref02_near.holds Tryz.prog ZG 112 :=
  detP Zx_ref02_near_ok Zmixed nHn Zat_ref02_near (F := fun x post => Fx_ref02_near  x.1 x.2.1 post) (fun x post => Zeq_ref02_near x.1 x.2.1 post) fun x h _ => Lx_ref02_near  x.1 x.2.1 h
def Zx_ref02_small : Cx := ⟨tabOf Ztab, conOf [(111, Zq_ref02_length), (112, Zq_ref02_near)], ZG⟩
theorem Zx_ref02_small_ok : CxOk Tryz.prog Zx_ref02_small := ⟨tabB_sound Ztab_ok, conOf_sound ⟨Zh_ref02_length, Zh_ref02_near, trivial⟩⟩
theorem Zat_ref02_small : FnAt Tryz.prog 78 Tryz.f78.ntmps Tryz.f78.results.toList (Tryz.f78.body.getD .skip) := ⟨Tryz.f78, Tryz.func78, rfl, rfl, by simp, by decide⟩
theorem Zeq_ref02_small (m : Int) (e : Int) (p : Int) (l : Int) (f : Int) (post : Int × Unit → Prop) : fnEval Zx_ref02_small Zhn_ref02_small Tryz.f78.ntmps Tryz.f78.results.toList (Tryz.f78.body.getD .skip) [.int .u64, .int .i64, .int .i64, .int .i64, .int .u64] [.snap (.int .u64)] (m, e, p, l, f, ()) post = Fx_ref02_small  m e p l f post := by kernel_rfl
theorem Zh_ref02_small : Zq_ref02_small.holds Tryz.prog ZG 78 :=
  detP Zx_ref02_small_ok Zmixed Zhn_ref02_small Zat_ref02_small (F := fun x post => Fx_ref02_small  x.1 x.2.1 x.2.2.1 x.2.2.2.1 x.2.2.2.2.1 post) (fun x post => Zeq_ref02_small x.1 x.2.1 x.2.2.1 x.2.2.2.1 x.2.2.2.2.1 post) fun x h _ => Lx_ref02_small  x.1 x.2.1 x.2.2.1 x.2.2.2.1 x.2.2.2.2.1 h
def Zx_ref02_FromInt : Cx := ⟨tabOf Ztab, conOf [(78, Zq_ref02_small), (96, Zq_raw_From)], ZG⟩
theorem Zx_ref02_FromInt_ok : CxOk Tryz.prog Zx_ref02_FromInt := ⟨tabB_sound Ztab_ok, conOf_sound ⟨Zh_ref02_small, Zh_raw_From, trivial⟩⟩
theorem Zat_ref02_FromInt : FnAt Tryz.prog 79 Tryz.f79.ntmps Tryz.f79.results.toList (Tryz.f79.body.getD .skip) := ⟨Tryz.f79, Tryz.func79, rfl, rfl, by simp, by decide⟩
theorem Zeq_ref02_FromInt (a : Int) (post : Nat × Unit → Prop) : fnEval Zx_ref02_FromInt nHn Tryz.f79.ntmps Tryz.f79.results.toList (Tryz.f79.body.getD .skip) [.int .i64] [.snap (.flt .f64)] (a, ()) post = Fx_ref02_FromInt  a post := by kernel_rfl
theorem Zh_ref02_FromInt : Zq_ref02_FromInt.holds Tryz.prog ZG 79 :=
  detP Zx_ref02_FromInt_ok Zmixed nHn Zat_ref02_FromInt (F := fun x post => Fx_ref02_FromInt  x.1 post) (fun x post => Zeq_ref02_FromInt x.1 post) fun x h _ => Lx_ref02_FromInt  x.1 h
def Zx_ref02_parts : Cx := ⟨tabOf Ztab, conOf [(94, Zq_raw_Bits)], ZG⟩
theorem Zx_ref02_parts_ok : CxOk Tryz.prog Zx_ref02_parts := ⟨tabB_sound Ztab_ok, conOf_sound ⟨Zh_raw_Bits, trivial⟩⟩
theorem Zat_ref02_parts : FnAt Tryz.prog 77 Tryz.f77.ntmps Tryz.f77.results.toList (Tryz.f77.body.getD .skip) := ⟨Tryz.f77, Tryz.func77, rfl, rfl, by simp, by decide⟩
theorem Zeq_ref02_parts (a : Nat) (post : Bool × Int × Int × Int × Unit → Prop) : fnEval Zx_ref02_parts nHn Tryz.f77.ntmps Tryz.f77.results.toList (Tryz.f77.body.getD .skip) [.flt .f64] [.snap .bool, .snap (.int .u64), .snap (.int .i64), .snap (.int .i64)] (a, ()) post = Fx_ref02_parts  a post := by kernel_rfl
theorem Zh_ref02_parts : Zq_ref02_parts.holds Tryz.prog ZG 77 :=
  detP Zx_ref02_parts_ok Zmixed nHn Zat_ref02_parts (F := fun x post => Fx_ref02_parts  x.1 post) (fun x post => Zeq_ref02_parts x.1 post) fun x h _ => Lx_ref02_parts  x.1 h
def Zx_ref02_To32 : Cx := ⟨tabOf Ztab, conOf [(77, Zq_ref02_parts), (78, Zq_ref02_small)], ZG⟩
theorem Zx_ref02_To32_ok : CxOk Tryz.prog Zx_ref02_To32 := ⟨tabB_sound Ztab_ok, conOf_sound ⟨Zh_ref02_parts, Zh_ref02_small, trivial⟩⟩
theorem Zat_ref02_To32 : FnAt Tryz.prog 37 Tryz.f37.ntmps Tryz.f37.results.toList (Tryz.f37.body.getD .skip) := ⟨Tryz.f37, Tryz.func37, rfl, rfl, by simp, by decide⟩
theorem Zeq_ref02_To32 (a : Nat) (post : Int × Unit → Prop) : fnEval Zx_ref02_To32 nHn Tryz.f37.ntmps Tryz.f37.results.toList (Tryz.f37.body.getD .skip) [.flt .f64] [.snap (.int .u32)] (a, ()) post = Fx_ref02_To32  a post := by kernel_rfl
theorem Zh_ref02_To32 : Zq_ref02_To32.holds Tryz.prog ZG 37 :=
  detP Zx_ref02_To32_ok Zmixed nHn Zat_ref02_To32 (F := fun x post => Fx_ref02_To32  x.1 post) (fun x post => Zeq_ref02_To32 x.1 post) fun x h _ => Lx_ref02_To32  x.1 h
def Zx_ref11_Depth : Cx := ⟨tabOf Ztab, conOf [(79, Zq_ref02_FromInt)], ZG⟩
theorem Zx_ref11_Depth_ok : CxOk Tryz.prog Zx_ref11_Depth := ⟨tabB_sound Ztab_ok, conOf_sound ⟨Zh_ref02_FromInt, trivial⟩⟩
theorem Zat_ref11_Depth : FnAt Tryz.prog 38 Tryz.f38.ntmps Tryz.f38.results.toList (Tryz.f38.body.getD .skip) := ⟨Tryz.f38, Tryz.func38, rfl, rfl, by simp, by decide⟩
theorem Zeq_ref11_Depth (a : Int) (b : Int) (post : Nat × Unit → Prop) : fnEval Zx_ref11_Depth nHn Tryz.f38.ntmps Tryz.f38.results.toList (Tryz.f38.body.getD .skip) [.int .i64, .int .i64] [.snap (.flt .f64)] (a, b, ()) post = Fx_ref11_Depth  a b post := by kernel_rfl
theorem Zh_ref11_Depth : Zq_ref11_Depth.holds Tryz.prog ZG 38 :=
  detP Zx_ref11_Depth_ok Zmixed nHn Zat_ref11_Depth (F := fun x post => Fx_ref11_Depth  x.1 x.2.1 post) (fun x post => Zeq_ref11_Depth x.1 x.2.1 post) fun x h _ => Lx_ref11_Depth  x.1 x.2.1 h
end Go.Lift

/- Contracts of functions, of a seat. Own work. -/
set_option linter.unusedVariables false
set_option linter.unusedSimpArgs false
namespace Go.Lift
open Go.Proofs
def Zx_ref08_ratio : Cx := ⟨tabOf Ztab, conOf [(79, Zq_ref02_FromInt)], ZG⟩
theorem Zx_ref08_ratio_ok : CxOk Tryz.prog Zx_ref08_ratio := ⟨tabB_sound Ztab_ok, conOf_sound ⟨Zh_ref02_FromInt, trivial⟩⟩
theorem Zat_ref08_ratio : FnAt Tryz.prog 115 Tryz.f115.ntmps Tryz.f115.results.toList (Tryz.f115.body.getD .skip) := ⟨Tryz.f115, Tryz.func115, rfl, rfl, by simp, by decide⟩
theorem Zeq_ref08_ratio (a : Int) (b : Int) (post : Nat × Unit → Prop) : fnEval Zx_ref08_ratio nHn Tryz.f115.ntmps Tryz.f115.results.toList (Tryz.f115.body.getD .skip) [.int .i64, .int .i64] [.snap (.flt .f64)] (a, b, ()) post = Fx_ref08_ratio  a b post := by kernel_rfl
theorem Zh_ref08_ratio : Zq_ref08_ratio.holds Tryz.prog ZG 115 :=
  detP Zx_ref08_ratio_ok Zmixed nHn Zat_ref08_ratio (F := fun x post => Fx_ref08_ratio  x.1 x.2.1 post) (fun x post => Zeq_ref08_ratio x.1 x.2.1 post) fun x h _ => Lx_ref08_ratio  x.1 x.2.1 h
def Zx_ref08_component : Cx := ⟨tabOf Ztab, conOf [(116, Zq_ref01_Canon)], ZG⟩
theorem Zx_ref08_component_ok : CxOk Tryz.prog Zx_ref08_component := ⟨tabB_sound Ztab_ok, conOf_sound ⟨Zh_ref01_Canon, trivial⟩⟩
theorem Zat_ref08_component : FnAt Tryz.prog 146 Tryz.f146.ntmps Tryz.f146.results.toList (Tryz.f146.body.getD .skip) := ⟨Tryz.f146, Tryz.func146, rfl, rfl, by simp, by decide⟩
theorem Zeq_ref08_component (f : Int) (i : Int) (s : Nat) (t : Nat) (post : Nat × Unit → Prop) : fnEvalI Zx_ref08_component Zhn_ref08_component (callLvl Zx_ref08_component Zfns_frame8 6) Tryz.f146.ntmps Tryz.f146.results.toList (Tryz.f146.body.getD .skip) [.int .i64, .int .i64, .flt .f64, .flt .f64] [.snap (.flt .f64)] (f, i, s, t, ()) post = Fx_ref08_component  f i s t post := by kernel_rfl
theorem Zh_ref08_component : Zq_ref08_component.holds Tryz.prog ZG 146 :=
  detPI Zx_ref08_component_ok Zmixed Zhn_ref08_component (callLvl_ok Zx_ref08_component_ok Zmixed Zfns_frame8_ok 6) Zat_ref08_component (F := fun x post => Fx_ref08_component  x.1 x.2.1 x.2.2.1 x.2.2.2.1 post) (fun x post => Zeq_ref08_component x.1 x.2.1 x.2.2.1 x.2.2.2.1 post) fun x h _ => Lx_ref08_component  x.1 x.2.1 x.2.2.1 x.2.2.2.1 h
def Zx_ref08_point : Cx := ⟨tabOf Ztab, conOf [(146, Zq_ref08_component), (145, Zq_ref07_Unit)], ZG⟩
theorem Zx_ref08_point_ok : CxOk Tryz.prog Zx_ref08_point := ⟨tabB_sound Ztab_ok, conOf_sound ⟨Zh_ref08_component, Zh_ref07_Unit, trivial⟩⟩
theorem Zat_ref08_point : FnAt Tryz.prog 114 Tryz.f114.ntmps Tryz.f114.results.toList (Tryz.f114.body.getD .skip) := ⟨Tryz.f114, Tryz.func114, rfl, rfl, by simp, by decide⟩
theorem Zeq_ref08_point (f : Int) (s : Nat) (t : Nat) (post : (Nat × Nat × Nat) × Unit → Prop) : fnEval Zx_ref08_point nHn Tryz.f114.ntmps Tryz.f114.results.toList (Tryz.f114.body.getD .skip) [.int .i64, .flt .f64, .flt .f64] [.snap kVec] (f, s, t, ()) post = Fx_ref08_point  f s t post := by kernel_rfl
theorem Zh_ref08_point : Zq_ref08_point.holds Tryz.prog ZG 114 :=
  detP Zx_ref08_point_ok Zmixed nHn Zat_ref08_point (F := fun x post => Fx_ref08_point  x.1 x.2.1 x.2.2.1 post) (fun x post => Zeq_ref08_point x.1 x.2.1 x.2.2.1 post) fun x h _ => Lx_ref08_point  x.1 x.2.1 x.2.2.1 h
def Zx_ref08_Corner : Cx := ⟨tabOf Ztab, conOf [(115, Zq_ref08_ratio), (114, Zq_ref08_point)], ZG⟩
theorem Zx_ref08_Corner_ok : CxOk Tryz.prog Zx_ref08_Corner := ⟨tabB_sound Ztab_ok, conOf_sound ⟨Zh_ref08_ratio, Zh_ref08_point, trivial⟩⟩
theorem Zat_ref08_Corner : FnAt Tryz.prog 81 Tryz.f81.ntmps Tryz.f81.results.toList (Tryz.f81.body.getD .skip) := ⟨Tryz.f81, Tryz.func81, rfl, rfl, by simp, by decide⟩
theorem Zeq_ref08_Corner (n : Int) (f : Int) (i : Int) (j : Int) (post : (Nat × Nat × Nat) × Bool × Unit → Prop) : fnEval Zx_ref08_Corner nHn Tryz.f81.ntmps Tryz.f81.results.toList (Tryz.f81.body.getD .skip) [.int .i64, .int .i64, .int .i64, .int .i64] [.snap kVec, .snap .bool] (n, f, i, j, ()) post = Fx_ref08_Corner  n f i j post := by kernel_rfl
theorem Zh_ref08_Corner : Zq_ref08_Corner.holds Tryz.prog ZG 81 :=
  detP Zx_ref08_Corner_ok Zmixed nHn Zat_ref08_Corner (F := fun x post => Fx_ref08_Corner  x.1 x.2.1 x.2.2.1 x.2.2.2.1 post) (fun x post => Zeq_ref08_Corner x.1 x.2.1 x.2.2.1 x.2.2.2.1 post) fun x h _ => Lx_ref08_Corner  x.1 x.2.1 x.2.2.1 x.2.2.2.1 h
end Go.Lift

/- What is nearest, by a float's bits alone. Own work. -/
set_option linter.unusedVariables false
set_option linter.unusedSimpArgs false
namespace Go.Lift
open Ieee
theorem cutZ_eq {way : Toward} (hw : way = .down ∨ way = .zero) (n d : Nat) : way.cut false n d = n / 2 ^ d := by
  have h0 : way.cut false n d = n / (1 <<< min d (n.log2 + 2)) := by
    rcases hw with rfl | rfl <;> rfl
  rw [h0, Nat.one_shiftLeft]
  rcases Nat.le_total d (n.log2 + 2) with h | h
  · rw [Nat.min_eq_left h]
  · rw [Nat.min_eq_right h]
    have a : n < 2 ^ (n.log2 + 1) := Nat.lt_log2_self
    have b : 2 ^ (n.log2 + 1) ≤ 2 ^ (n.log2 + 2) := Nat.pow_le_pow_right (by decide) (by omega)
    have c : 2 ^ (n.log2 + 2) ≤ 2 ^ d := Nat.pow_le_pow_right (by decide) h
    rw [Nat.div_eq_of_lt (by omega), Nat.div_eq_of_lt (by omega)]
theorem val_rnd {T : Nat} {p : Int} (hT : T < 9007199254740992) (hp : -1074 ≤ p) (hp2 : p ≤ 900) : valR (rnd T p) = T * 2 ^ (p + 1074).toNat := by
  by_cases h0 : T = 0
  · rw [h0, Nat.zero_mul, show rnd 0 p = 0 from rfl, valR_zero]
  have hl : T.log2 < 53 := (Nat.log2_lt h0).2 (Nat.lt_of_lt_of_le hT (by decide))
  have hlo : T < 2 ^ (T.log2 + 1) := Nat.lt_log2_self
  have hhi : 2 ^ T.log2 ≤ T := Nat.log2_self_le h0
  obtain ⟨L, hL⟩ : ∃ L, lastP T p = L := ⟨_, rfl⟩
  have hL' : L = max (p + T.log2 - 52) (-1074) := hL.symm
  have hLp : L ≤ p := by omega
  obtain ⟨M, hM⟩ : ∃ M, T * 2 ^ (p - L).toNat = M := ⟨_, rfl⟩
  have hM2 : M < 9007199254740992 := by
    have a : T * 2 ^ (p - L).toNat < 2 ^ (T.log2 + 1) * 2 ^ (p - L).toNat := Nat.mul_lt_mul_of_pos_right hlo (Nat.two_pow_pos _)
    rw [← Nat.pow_add] at a
    have b : 2 ^ (T.log2 + 1 + (p - L).toNat) ≤ 2 ^ 53 := Nat.pow_le_pow_right (by decide) (by omega)
    have c : (2 : Nat) ^ 53 = 9007199254740992 := by decide
    omega
  have hM1 : -1074 < L → 4503599627370496 ≤ M := by
    intro q
    have a : 2 ^ T.log2 * 2 ^ (p - L).toNat ≤ T * 2 ^ (p - L).toNat := Nat.mul_le_mul_right _ hhi
    rw [← Nat.pow_add, show T.log2 + (p - L).toNat = 52 by omega] at a
    have c : (2 : Nat) ^ 52 = 4503599627370496 := by decide
    omega
  have hr : rnd T p = (L + 1074).toNat * bin + M := by
    unfold rnd
    rw [if_neg h0, hL, show (L - p).toNat = 0 by omega, cutE_zero, hM]
    refine Nat.min_eq_left ?_
    have hz : (L + 1074).toNat ≤ 1974 := by omega
    have hy : (L + 1074).toNat * bin ≤ 1974 * bin := Nat.mul_le_mul_right _ hz
    have hx : 1974 * bin = 8890105664429359104 := by decide
    have hi : infR = 9218868437227405312 := rfl
    omega
  have hTM : T * 2 ^ (p + 1074).toNat = M * 2 ^ (L + 1074).toNat := by
    have e : (p - L).toNat + (L + 1074).toNat = (p + 1074).toNat := by omega
    rw [← hM, Nat.mul_assoc, ← Nat.pow_add, e]
  rw [hr, hTM]
  obtain ⟨k, hkL⟩ : ∃ k, (L + 1074).toNat = k := ⟨_, rfl⟩
  rw [hkL]
  by_cases hk : k = 0
  · subst hk
    rw [Nat.zero_mul, Nat.zero_add, Nat.pow_zero, Nat.mul_one]
    by_cases hb : M < bin
    · rw [valR_lo hb]
    · rw [valR_hi hb]
      have : M / bin = 1 := by unfold bin at *; omega
      rw [this, Nat.pow_zero, Nat.mul_one]
      unfold bin at *; omega
  · have hb : 4503599627370496 ≤ M := by
      by_cases q : -1074 < L
      · exact hM1 q
      · omega
    have e : k * bin + M = (M - bin) + (k + 1) * bin := by rw [Nat.succ_mul]; unfold bin; omega
    have e1 : (k * bin + M) / bin = k + 1 := by
      rw [e, Nat.add_mul_div_right _ _ (by decide), Nat.div_eq_of_lt (by unfold bin; omega)]; omega
    have e2 : (k * bin + M) % bin = M - bin := by
      rw [e, Nat.add_mul_mod_self_right, Nat.mod_eq_of_lt (by unfold bin; omega)]
    rw [valR_hi (by have : 1 * bin ≤ k * bin := Nat.mul_le_mul_right _ (by omega); omega), e1, e2]
    have e3 : bin + (M - bin) = M := by unfold bin; omega
    rw [e3, show k + 1 - 1 = k by omega]
theorem whole_val {R k : Nat} (h : valR R = k * 2 ^ U74) : Toward.zero.cut false (magOf R <<< (placeOf R).toNat) (-placeOf R).toNat = k := by
  rw [cutZ_eq (.inr rfl), Nat.shiftLeft_eq]
  have hU : U74 = 1074 := rfl
  unfold valR at h
  generalize U74 = U at *
  have hp := placeOf_ge R
  rcases Int.lt_or_le (placeOf R) 0 with q | q
  · rw [show (placeOf R).toNat = 0 by omega, Nat.pow_zero, Nat.mul_one]
    rw [show U = (-placeOf R).toNat + (placeOf R + 1074).toNat by omega, Nat.pow_add, ← Nat.mul_assoc] at h
    rw [Nat.eq_of_mul_eq_mul_right (Nat.two_pow_pos _) h, Nat.mul_div_cancel _ (Nat.two_pow_pos _)]
  · rw [show (-placeOf R).toNat = 0 by omega, Nat.pow_zero, Nat.div_one]
    rw [show (placeOf R + 1074).toNat = (placeOf R).toNat + U by omega, Nat.pow_add, ← Nat.mul_assoc] at h
    exact Nat.eq_of_mul_eq_mul_right (Nat.two_pow_pos _) h
theorem half_val : valR halfR = 2 ^ 1073 := by decide +kernel
theorem key_word0 {r : Nat} (h : r < sw) : keyOf' (double.word false r) = r := by
  obtain ⟨w1, w2, w3⟩ := word_parts (s := false) h
  unfold keyOf'; rw [w2, w1]; rfl
theorem order_half {q : Nat} (h : q < infR) : double.order (double.word false q) halfR = some (compare (valR q : Int) (valR halfR : Int)) := by
  have hi : infR < sw := by decide
  rw [order_eq (word_le (Nat.le_of_lt h)).1 (by decide), key_word0 (by omega)]
  have e : keyOf' halfR = (halfR : Nat) := by decide
  rw [e]
  have key : compare (q : Int) (halfR : Nat) = compare (valR q : Int) (valR halfR : Int) := by
    rcases Nat.lt_trichotomy q halfR with g | g | g
    · rw [Std.compare_eq_lt.2 (by omega), Std.compare_eq_lt.2 (by have := valR_lt g; omega)]
    · rw [g, Std.compare_self, Std.compare_self]
    · rw [Std.compare_eq_gt.2 (by omega), Std.compare_eq_gt.2 (by have := valR_lt g; omega)]
  rw [key]
theorem near_val {r : Nat} (h : r < two63) : nearI r = if 0 ≤ placeOf r then ((magOf r * 2 ^ (placeOf r).toNat : Nat) : Int) else ((cutE (magOf r) (-placeOf r).toNat : Nat) : Int) := by
  have hr : rungOf r = r := rung_lo (by unfold two63 at h; omega)
  have hf : r < infR := by unfold two63 at h; unfold infR; omega
  have hs : sgn r = false := (small_sgn (by unfold two63 at h; omega)).1
  have hm : magOf r < 9007199254740992 := mag_lt r
  have hpl : placeOf r ≤ 100 := by unfold placeOf; unfold two63 at h; unfold bin; split <;> omega
  have hp := placeOf_ge r
  have hrd : double.read r = .number false (magOf r) (placeOf r) := by rw [read_num (by rw [hr]; exact hf), hr, hs]
  have hfl : floorF r = double.word false (rnd (Toward.down.cut false (magOf r <<< (placeOf r).toNat) (-placeOf r).toNat) 0) := by
    unfold floorF
    rw [hrd]
    show double.nearest false _ 0 = _
    rw [nearest_eq]
  rw [cutZ_eq (.inl rfl), Nat.shiftLeft_eq] at hfl
  have hsubz : ∀ R, R < infR → valR R ≤ valR r → double.read (floorF r) = .number false (magOf R) (placeOf R) → ∀ F : Nat, ∀ P : Int, -1074 ≤ P → valR r - valR R = F * 2 ^ (P + 1074).toNat → subQ r (floorF r) = double.word false (rnd F P) := by
    intro R hR hle hrR F P hP hFP
    unfold subQ Format.sub
    rw [hrd, hrR]
    show (((Datum.number false (magOf r) (placeOf r)).sum (Datum.number true (magOf R) (placeOf R))).map double.write).getD QN = _
    unfold Datum.sum
    dsimp only
    obtain ⟨b, hb⟩ : ∃ b, min (placeOf r) (placeOf R) = b := ⟨_, rfl⟩
    have hpR := placeOf_ge R
    rw [hb]
    have s1 : signed false (magOf r) (placeOf r - b).toNat = ((magOf r * 2 ^ (placeOf r - b).toNat : Nat) : Int) := by
      unfold signed; rw [if_neg (by decide), Nat.shiftLeft_eq]
    have s2 : signed true (magOf R) (placeOf R - b).toNat = -((magOf R * 2 ^ (placeOf R - b).toNat : Nat) : Int) := by
      unfold signed; rw [if_pos rfl, Nat.shiftLeft_eq]
    rw [s1, s2]
    have v1 : valR r = magOf r * 2 ^ (placeOf r - b).toNat * 2 ^ (b + 1074).toNat := by
      unfold valR; rw [Nat.mul_assoc, ← Nat.pow_add]; congr 2; omega
    have v2 : valR R = magOf R * 2 ^ (placeOf R - b).toNat * 2 ^ (b + 1074).toNat := by
      unfold valR; rw [Nat.mul_assoc, ← Nat.pow_add]; congr 2; omega
    rw [v1, v2] at hle hFP
    generalize magOf r * 2 ^ (placeOf r - b).toNat = A at *
    generalize magOf R * 2 ^ (placeOf R - b).toNat = B at *
    have hBA : B ≤ A := Nat.le_of_mul_le_mul_right hle (Nat.two_pow_pos _)
    rw [← Nat.sub_mul] at hFP
    have e1 : (A : Int) + -(B : Int) = ((A - B : Nat) : Int) := by omega
    rw [e1]
    have hr1 : rnd (A - B) b = rnd F P := by
      rcases Int.le_total b P with q | q
      · have : A - B = F * 2 ^ (P - b).toNat := by
          rw [show (P + 1074).toNat = (P - b).toNat + (b + 1074).toNat by omega, Nat.pow_add, ← Nat.mul_assoc] at hFP
          exact Nat.eq_of_mul_eq_mul_right (Nat.two_pow_pos _) hFP
        rw [this]
        have := rnd_scale F P (P - b).toNat
        rwa [show P - ((P - b).toNat : Int) = b by omega] at this
      · have : F = (A - B) * 2 ^ (b - P).toNat := by
          rw [show (b + 1074).toNat = (b - P).toNat + (P + 1074).toNat by omega, Nat.pow_add, ← Nat.mul_assoc] at hFP
          exact (Nat.eq_of_mul_eq_mul_right (Nat.two_pow_pos _) hFP).symm
        rw [this]
        have := rnd_scale (A - B) b (b - P).toNat
        rw [show b - ((b - P).toNat : Int) = P by omega] at this
        exact this.symm
    by_cases z : A - B = 0
    · rw [if_pos (by rw [z]; rfl)]
      show double.nearest _ _ _ = _
      rw [nearest_eq, ← hr1]
      rfl
    · rw [if_neg (by omega)]
      show double.nearest _ _ _ = _
      rw [nearest_eq, Int.natAbs_natCast, hr1, show decide (((A - B : Nat) : Int) < 0) = false from decide_eq_false (by omega)]
  have hrdw : ∀ R, R < infR → double.read (double.word false R) = .number false (magOf R) (placeOf R) := by
    intro R hR
    obtain ⟨w1, w2, w3⟩ := word_parts (s := false) (r := R) (by unfold infR at hR; unfold sw; omega)
    rw [read_num (by rw [w1]; exact hR), w1, w2]
  have hwh : ∀ R k, R < infR → double.read (floorF r) = .number false (magOf R) (placeOf R) → valR R = k * 2 ^ U74 → wholeI (floorF r) = (k : Int) := by
    intro R k hR hrR hv
    unfold wholeI
    rw [hrR]
    show signed false (Toward.zero.cut false (magOf R <<< (placeOf R).toNat) (-placeOf R).toNat) 0 = _
    rw [whole_val hv]
    unfold signed; rw [if_neg (by decide), Nat.shiftLeft_zero]
  unfold nearI
  by_cases he : 0 ≤ placeOf r
  · rw [if_pos he]
    rw [show (-placeOf r).toNat = 0 by omega, Nat.pow_zero, Nat.div_one] at hfl
    have hR : rnd (magOf r * 2 ^ (placeOf r).toNat) 0 = r := by
      have := rnd_scale (magOf r) (placeOf r) (placeOf r).toNat
      rw [show placeOf r - ((placeOf r).toNat : Int) = 0 by omega] at this
      rw [this, rnd_exact hf]
    rw [hR] at hfl
    have hrR := hrdw r hf
    rw [← hfl] at hrR
    have hw := hwh r (magOf r * 2 ^ (placeOf r).toNat) hf hrR (val_up U74 rfl he)
    have hz := hsubz r hf (Nat.le_refl _) hrR 0 0 (by omega) (by rw [Nat.sub_self, Nat.zero_mul])
    rw [show rnd 0 0 = 0 from rfl] at hz
    rw [hz, hw, order_half (by decide), valR_zero, half_val]
    have : compare ((0 : Nat) : Int) ((2 ^ 1073 : Nat) : Int) = .lt := Std.compare_eq_lt.2 (by have := Nat.two_pow_pos 1073; omega)
    rw [this]
    rfl
  · rw [if_neg he]
    obtain ⟨s, hsx⟩ : ∃ s : Nat, (-placeOf r).toNat = s := ⟨_, rfl⟩
    have hs1 : 1 ≤ s := by omega
    rw [show (placeOf r).toNat = 0 by omega, Nat.pow_zero, Nat.mul_one, hsx] at hfl
    rw [hsx]
    generalize hm' : magOf r = m at *
    have hk : m / 2 ^ s ≤ m := Nat.div_le_self _ _
    have hR : rnd (m / 2 ^ s) 0 < infR := by
      have := rnd63 (k := m / 2 ^ s) (by omega)
      unfold two63 at this; unfold infR; omega
    have hvR := val_rnd (T := m / 2 ^ s) (p := 0) (by omega) (by omega) (by omega)
    have hrR := hrdw _ hR
    rw [← hfl] at hrR
    have hw := hwh _ (m / 2 ^ s) hR hrR (by rw [hvR, show (0 + 1074 : Int).toNat = U74 from rfl])
    have hv0 : valR r = m * 2 ^ (placeOf r + 1074).toNat := by unfold valR; rw [hm']
    have hq : (0 + 1074 : Int).toNat = s + (placeOf r + 1074).toNat := by omega
    have hvR2 : valR (rnd (m / 2 ^ s) 0) = m / 2 ^ s * 2 ^ s * 2 ^ (placeOf r + 1074).toNat := by
      rw [hvR, hq, Nat.pow_add, Nat.mul_assoc]
    have hdm : m / 2 ^ s * 2 ^ s + m % 2 ^ s = m := Nat.div_add_mod' m (2 ^ s)
    have hf2 : m % 2 ^ s < 9007199254740992 := Nat.lt_of_le_of_lt (Nat.mod_le _ _) hm
    have hz := hsubz _ hR (by rw [hvR2, hv0]; exact Nat.mul_le_mul_right _ (by omega)) hrR (m % 2 ^ s) (placeOf r) hp (by
      rw [hvR2, hv0, ← Nat.sub_mul]; congr 1; omega)
    have hvF := val_rnd hf2 hp (by omega)
    have hF : rnd (m % 2 ^ s) (placeOf r) < infR := by
      have a : rnd (m % 2 ^ s) (placeOf r) ≤ rnd m (placeOf r) := rnd_mono' _ (Nat.mod_le _ _)
      have b := rnd_exact hf
      rw [hm'] at b
      omega
    rw [hz, hw, order_half hF, hvF, half_val]
    have hp3 : (2 : Nat) ^ 1073 = 2 ^ (s - 1) * 2 ^ (placeOf r + 1074).toNat := by rw [← Nat.pow_add]; congr 1; omega
    have hp4 : (2 : Nat) ^ s = 2 * 2 ^ (s - 1) := by
      conv => lhs; rw [show s = s - 1 + 1 by omega]
      rw [Nat.pow_succ]; omega
    rw [hp3, Int.natCast_mul, Int.natCast_mul (2 ^ (s - 1)), compare_mul _ _ _ (Nat.two_pow_pos _)]
    unfold cutE
    rw [hp4]
    generalize 2 ^ (s - 1) = H at *
    generalize m % (2 * H) = f at *
    generalize m / (2 * H) = k at *
    have hodd : ((((k : Nat) : Int) % 2 == 1) = true) ↔ k % 2 = 1 := by
      rw [beq_iff_eq]; omega
    rcases Nat.lt_trichotomy f H with g | g | g
    · rw [show compare ((f : Nat) : Int) (H : Int) = .lt from Std.compare_eq_lt.2 (by omega)]
      conv => rhs; rw [if_neg (by omega)]
      rfl
    · rw [g, Std.compare_self]
      by_cases o : k % 2 = 1
      · rw [show (((k : Nat) : Int) % 2 == 1) = true from hodd.2 o]
        conv => rhs; rw [if_pos (.inr ⟨rfl, o⟩)]
        rfl
      · rw [show (((k : Nat) : Int) % 2 == 1) = false from Bool.eq_false_iff.2 fun q => o (hodd.1 q)]
        conv => rhs; rw [if_neg (by omega)]
        rfl
    · rw [show compare ((f : Nat) : Int) (H : Int) = .gt from Std.compare_eq_gt.2 (by omega)]
      conv => rhs; rw [if_pos (.inl (by omega))]
      rfl
theorem cut_le53 {r : Nat} (d : Nat) : cutE (magOf r) d < 9007199254740992 := Nat.lt_of_le_of_lt (cutE_self _ _) (mag_lt r)
theorem round_small {a : Nat} {K : Nat} (hlt : rungOf a < two63) (hK : nearI (rungOf a) = (K : Int)) (hb : K < 9223372036854775808) (h0 : rungOf a = 0 → K = 0) : wholeBR (sgn a) (K : Int) = roundR a := by
  have hw : IntKind.i64.wrap (K : Int) = K := wi ⟨by omega, by omega⟩
  have hw2 : IntKind.i64.wrap (0 - (K : Int)) = -(K : Int) := by rw [wi ⟨by omega, by omega⟩]; omega
  unfold roundR roundI
  rw [if_pos hlt, hK, hw, hw2]
  unfold wholeBR
  cases hs : sgn a
  · rw [if_neg (by intro q; cases q.1), if_neg (by intro q; rcases q with q | q; exact absurd q (by decide); omega)]
    rfl
  · rw [if_pos ⟨rfl, by omega⟩]
    by_cases z : rungOf a = 0
    · rw [decide_eq_false (by simpa using z), if_neg (by decide), h0 z]; rfl
    · rw [decide_eq_true z]; rfl
theorem round_parts {a : Nat} (h : W64 a) (hf : rungOf a < infR) :
    (0 ≤ placeOf (rungOf a) → 9223372036854775808 < magOf (rungOf a) * 2 ^ (placeOf (rungOf a)).toNat → roundR a = (0, false, ())) ∧
    (0 ≤ placeOf (rungOf a) → magOf (rungOf a) * 2 ^ (placeOf (rungOf a)).toNat ≤ 9223372036854775808 → wholeBR (sgn a) ((magOf (rungOf a) * 2 ^ (placeOf (rungOf a)).toNat : Nat) : Int) = roundR a) ∧
    (placeOf (rungOf a) < 0 → wholeBR (sgn a) ((cutE (magOf (rungOf a)) (-placeOf (rungOf a)).toNat : Nat) : Int) = roundR a) := by
  have hneg : placeOf (rungOf a) < 0 → rungOf a < two63 := by
    intro q
    unfold placeOf at q
    unfold two63
    split at q
    · unfold bin at *; omega
    · unfold bin at *; omega
  have hvv : 0 ≤ placeOf (rungOf a) → ((rungOf a ≤ two63 ↔ magOf (rungOf a) * 2 ^ (placeOf (rungOf a)).toNat ≤ 9223372036854775808) ∧ (two63 ≤ rungOf a ↔ 9223372036854775808 ≤ magOf (rungOf a) * 2 ^ (placeOf (rungOf a)).toNat)) := by
    intro q
    have e1 := val_up (r := rungOf a) U74 rfl q
    have e2 := val_63
    refine ⟨?_, ?_⟩
    · rw [← valR_le, e1, e2]
      exact ⟨fun g => Nat.le_of_mul_le_mul_right g (Nat.two_pow_pos _), fun g => Nat.mul_le_mul_right _ g⟩
    · rw [← valR_le, e1, e2]
      exact ⟨fun g => Nat.le_of_mul_le_mul_right g (Nat.two_pow_pos _), fun g => Nat.mul_le_mul_right _ g⟩
  have hpl0 : rungOf a = 0 → placeOf (rungOf a) = -1074 := by intro q; rw [q]; rfl
  refine ⟨fun q g => ?_, fun q g => ?_, fun q => ?_⟩
  · obtain ⟨e1, e2⟩ := hvv q
    have hgt : ¬ rungOf a ≤ two63 := fun z => by have := e1.1 z; omega
    unfold roundR roundI
    rw [if_neg (by omega), if_neg (by intro z; rw [z] at hgt; exact hgt (by decide))]
  · obtain ⟨e1, e2⟩ := hvv q
    have hle := e1.2 g
    by_cases hlt : rungOf a < two63
    · have hn := near_val hlt
      rw [if_pos q] at hn
      refine round_small hlt hn ?_ (fun z => by have := hpl0 z; omega)
      rcases Nat.lt_or_ge (magOf (rungOf a) * 2 ^ (placeOf (rungOf a)).toNat) 9223372036854775808 with z | z
      · exact z
      · have := e2.2 z; omega
    · have he : rungOf a = two63 := by omega
      have hv : magOf (rungOf a) * 2 ^ (placeOf (rungOf a)).toNat = 9223372036854775808 := by
        have := e2.1 (by omega); omega
      rw [hv]
      unfold roundR roundI
      rw [if_neg hlt]
      unfold wholeBR
      unfold W64 at h
      have hdm : a / 9223372036854775808 * 9223372036854775808 + a % 9223372036854775808 = a := Nat.div_add_mod' a _
      have hr : rungOf a = a % 9223372036854775808 := rfl
      have hsg : sgn a = (a / 9223372036854775808 % 2 == 1) := rfl
      rw [hr] at he
      cases hs : sgn a
      · have : ¬ a = two63 + 9223372036854775808 := by
          intro z
          rw [z] at hs
          exact absurd hs (by decide)
        rw [if_neg this, if_neg (by intro q; cases q.1), if_pos (.inr (by omega))]
      · have : a = two63 + 9223372036854775808 := by
          rw [hsg, beq_iff_eq] at hs
          omega
        rw [if_pos this, if_pos ⟨rfl, by omega⟩]
        rfl
  · have hlt := hneg q
    have hn := near_val hlt
    rw [if_neg (by omega)] at hn
    exact round_small hlt hn (by have := cut_le53 (r := rungOf a) (-placeOf (rungOf a)).toNat; omega) (fun z => by have := cutE_self (magOf (rungOf a)) (-placeOf (rungOf a)).toNat; rw [show magOf (rungOf a) = 0 by rw [z]; rfl] at *; omega)
end Go.Lift

/- Own work. -/
set_option linter.unusedVariables false
set_option linter.unusedSimpArgs false
namespace Go.Lift
def Fx_ref02_Round := fun (a : Nat) (post : Int × Bool × Unit → Prop) => ∃ (h : W64 a), ∀ (a_1 : Bool), a_1 = ((partsR a).snd.snd.snd.fst != (0 : Int)) → Br a_1 (post ((0 : Int),
  Bool.false, ())) (∀ (a_2 : Bool), a_2 = decide ((partsR a).snd.snd.fst ≥ (0 : Int)) → Br a_2 (∃ (h : WGreat (partsR a).snd.fst (partsR a).snd.snd.fst), ∀ (a_3 : Bool), a_3 =
  (greatR (partsR a).snd.fst (partsR a).snd.snd.fst).fst → Br a_3 (post ((0 : Int), Bool.false, ())) (∀ (a_4 : Bool), a_4 = decide ((partsR a).snd.snd.fst ≥ (0 : Int)) → Br a_4 (∃
  (h : (0 : Int) ≤ IntKind.u64.wrap (partsR a).snd.snd.fst), ∃ (h : WWhole (partsR a).fst (IntKind.u64.wrap ((partsR a).snd.fst * (2 : Int) ^ Min.min (IntKind.u64.wrap (partsR
  a).snd.snd.fst).toNat IntKind.u64.bits))), post ((wholeBR (partsR a).fst (IntKind.u64.wrap ((partsR a).snd.fst * (2 : Int) ^ Min.min (IntKind.u64.wrap (partsR
  a).snd.snd.fst).toNat IntKind.u64.bits))).fst, (wholeBR (partsR a).fst (IntKind.u64.wrap ((partsR a).snd.fst * (2 : Int) ^ Min.min (IntKind.u64.wrap (partsR a).snd.snd.fst).toNat
  IntKind.u64.bits))).snd.fst, ())) (∃ (h : WDown (partsR a).snd.fst (IntKind.i64.wrap ((0 : Int) - (partsR a).snd.snd.fst))), ∃ (h : WWhole (partsR a).fst (cutR (partsR a).snd.fst
  (IntKind.i64.wrap ((0 : Int) - (partsR a).snd.snd.fst))).fst), post ((wholeBR (partsR a).fst (cutR (partsR a).snd.fst (IntKind.i64.wrap ((0 : Int) - (partsR
  a).snd.snd.fst))).fst).fst, (wholeBR (partsR a).fst (cutR (partsR a).snd.fst (IntKind.i64.wrap ((0 : Int) - (partsR a).snd.snd.fst))).fst).snd.fst, ())))) (∀ (a_3 : Bool), a_3 =
  decide ((partsR a).snd.snd.fst ≥ (0 : Int)) → Br a_3 (∃ (h : (0 : Int) ≤ IntKind.u64.wrap (partsR a).snd.snd.fst), ∃ (h : WWhole (partsR a).fst (IntKind.u64.wrap ((partsR
  a).snd.fst * (2 : Int) ^ Min.min (IntKind.u64.wrap (partsR a).snd.snd.fst).toNat IntKind.u64.bits))), post ((wholeBR (partsR a).fst (IntKind.u64.wrap ((partsR a).snd.fst * (2 :
  Int) ^ Min.min (IntKind.u64.wrap (partsR a).snd.snd.fst).toNat IntKind.u64.bits))).fst, (wholeBR (partsR a).fst (IntKind.u64.wrap ((partsR a).snd.fst * (2 : Int) ^ Min.min
  (IntKind.u64.wrap (partsR a).snd.snd.fst).toNat IntKind.u64.bits))).snd.fst, ())) (∃ (h : WDown (partsR a).snd.fst (IntKind.i64.wrap ((0 : Int) - (partsR a).snd.snd.fst))), ∃ (h :
  WWhole (partsR a).fst (cutR (partsR a).snd.fst (IntKind.i64.wrap ((0 : Int) - (partsR a).snd.snd.fst))).fst), post ((wholeBR (partsR a).fst (cutR (partsR a).snd.fst
  (IntKind.i64.wrap ((0 : Int) - (partsR a).snd.snd.fst))).fst).fst, (wholeBR (partsR a).fst (cutR (partsR a).snd.fst (IntKind.i64.wrap ((0 : Int) - (partsR
  a).snd.snd.fst))).fst).snd.fst, ()))))
theorem Lx_ref02_Round (a : Nat) (h : W64 a) : Fx_ref02_Round  a (fun r => r = roundR a) := by
  refine ⟨h, ?_⟩
  by_cases hf : rungOf a < infR
  · have hp : partsR a = (sgn a, ((magOf (rungOf a) : Nat) : Int), placeOf (rungOf a), 0, ()) := by
      unfold partsR whatI; rw [if_pos hf, if_pos hf, if_pos hf]
    rw [hp]
    dsimp only
    obtain ⟨p1, p2, p3⟩ := round_parts h hf
    have hm : magOf (rungOf a) < 9007199254740992 := mag_lt _
    have hpl := placeOf_ge (rungOf a)
    have hpu : placeOf (rungOf a) ≤ 1000 := by
      unfold placeOf; unfold infR at hf; unfold bin; split <;> omega
    rintro _ rfl
    refine Br.intro (fun g => absurd g (by decide)) fun _ => ?_
    rintro _ rfl
    refine Br.intro (fun g => ?_) fun g => ?_
    · have g : placeOf (rungOf a) ≥ 0 := of_decide_eq_true g
      have mb : 4503599627370496 ≤ magOf (rungOf a) := by
        have hb : bin ≤ rungOf a := by
          rcases Nat.lt_or_ge (rungOf a) bin with z | z
          · unfold placeOf at g; rw [if_pos z] at g; omega
          · exact z
        exact (rung_parts hb).2.1
      have hpow : ((magOf (rungOf a) : Nat) : Int) * (2 : Int) ^ (placeOf (rungOf a)).toNat = ((magOf (rungOf a) * 2 ^ (placeOf (rungOf a)).toNat : Nat) : Int) := by
        rw [Int.natCast_mul, Int.natCast_pow]; rfl
      have hbig : 64 ≤ placeOf (rungOf a) → 18446744073709551616 ≤ magOf (rungOf a) * 2 ^ (placeOf (rungOf a)).toNat := by
        intro z
        have a1 : 2 ^ 64 ≤ 2 ^ (placeOf (rungOf a)).toNat := Nat.pow_le_pow_right (by decide) (by omega)
        have a2 : 1 * 2 ^ (placeOf (rungOf a)).toNat ≤ magOf (rungOf a) * 2 ^ (placeOf (rungOf a)).toNat := Nat.mul_le_mul_right _ (by omega)
        have a3 : (2 : Nat) ^ 64 = 18446744073709551616 := by decide
        omega
      refine ⟨⟨by omega, by omega, g, hpu, .inr (by omega)⟩, ?_⟩
      intro c hc
      have hc : c = decide (9223372036854775808 < ((magOf (rungOf a) : Nat) : Int) * (2 : Int) ^ (placeOf (rungOf a)).toNat) := hc
      rw [hpow] at hc
      rw [hc]
      have w1 : IntKind.u64.wrap (placeOf (rungOf a)) = placeOf (rungOf a) := wu1 ⟨by omega, by omega⟩
      rw [w1]
      refine Br.intro (fun q => ?_) fun q => ?_
      · have q := of_decide_eq_true q
        exact (p1 g (by omega)).symm
      · have q := of_decide_eq_false q
        have h64 : placeOf (rungOf a) < 64 := by
          rcases Int.lt_or_le (placeOf (rungOf a)) 64 with z | z
          · exact z
          · have := hbig z; omega
        have mn : Min.min (placeOf (rungOf a)).toNat IntKind.u64.bits = (placeOf (rungOf a)).toNat := Nat.min_eq_left (by show _ ≤ 64; omega)
        rw [mn, hpow]
        have w2 : IntKind.u64.wrap ((magOf (rungOf a) * 2 ^ (placeOf (rungOf a)).toNat : Nat) : Int) = ((magOf (rungOf a) * 2 ^ (placeOf (rungOf a)).toNat : Nat) : Int) := wu1 ⟨by omega, by omega⟩
        rw [w2]
        rintro _ rfl
        refine Br.intro (fun _ => ?_) (fun z => absurd g (of_decide_eq_false z))
        exact ⟨by omega, ⟨by omega, by omega⟩, p2 g (by omega)⟩
    · have g : ¬ placeOf (rungOf a) ≥ 0 := of_decide_eq_false g
      have w3 : IntKind.i64.wrap (0 - placeOf (rungOf a)) = -placeOf (rungOf a) := by rw [wi ⟨by omega, by omega⟩]; omega
      rw [w3]
      rintro _ rfl
      refine Br.intro (fun z => absurd (of_decide_eq_true z) g) fun _ => ?_
      refine ⟨⟨by omega, by omega, by omega, by omega, .inr (by omega)⟩, ?_⟩
      have hcut := cut_le53 (r := rungOf a) (-placeOf (rungOf a)).toNat
      show ∃ _ : WWhole (sgn a) ((cutE (magOf (rungOf a)) (-placeOf (rungOf a)).toNat : Nat) : Int), _
      exact ⟨⟨by omega, by omega⟩, p3 (by omega)⟩
  · have hw : whatI a ≠ 0 := by
      unfold whatI; rw [if_neg hf]; split <;> decide
    rintro _ rfl
    refine Br.intro (fun _ => ?_) fun g => absurd (bne_int.2 g) hw
    have h1 : ¬ rungOf a < two63 := by unfold two63; unfold infR at hf; omega
    have h2 : ¬ a = two63 + 9223372036854775808 := by
      intro z; rw [z] at hf; exact hf (by decide)
    unfold roundR roundI
    rw [if_neg h1, if_neg h2]
end Go.Lift

/- Own work. -/
set_option linter.unusedVariables false
set_option linter.unusedSimpArgs false
namespace Go.Lift
def Fx_ref02_whole := fun (a : Bool) (b : Int) (post : Int × Bool × Unit → Prop) => Br a (∀ (a_1 : Bool), a_1 = decide (b ≤ (9223372036854775808 : Int)) → Br a_1 (post
  (IntKind.i64.wrap (IntKind.u64.wrap ((0 : Int) - b)), Bool.true, ())) (Br a (post ((0 : Int), Bool.false, ())) (∀ (a : Bool), a = decide (b ≥ (9223372036854775808 : Int)) → Br a
  (post ((0 : Int), Bool.false, ())) (post (IntKind.i64.wrap b, Bool.true, ()))))) (Br a (post ((0 : Int), Bool.false, ())) (∀ (a : Bool), a = decide (b ≥ (9223372036854775808 :
  Int)) → Br a (post ((0 : Int), Bool.false, ())) (post (IntKind.i64.wrap b, Bool.true, ()))))
theorem Lx_ref02_whole (a : Bool) (b : Int) (h : WWhole a b) : Fx_ref02_whole  a b (fun r => r = wholeBR a b) := by
  obtain ⟨h0, h1⟩ : U64 b := h
  cases a
  · refine Br.intro (fun q => by cases q) fun _ => Br.intro (fun q => by cases q) fun _ => ?_
    rintro _ rfl
    refine Br.intro (fun e => ?_) fun e => ?_
    · have e := of_decide_eq_true e
      unfold wholeBR; rw [if_neg (by rintro ⟨q, _⟩; cases q), if_pos (.inr e)]
    · have e := of_decide_eq_false e
      unfold wholeBR; rw [if_neg (by rintro ⟨q, _⟩; cases q), if_neg (by rintro (q | q); cases q; omega), wi ⟨by omega, by omega⟩]
  · refine Br.intro (fun _ => ?_) fun q => by cases q
    rintro _ rfl
    refine Br.intro (fun e => ?_) fun e => ?_
    · have e := of_decide_eq_true e
      have w : IntKind.i64.wrap (IntKind.u64.wrap (0 - b)) = -b := by
        rw [IntKind.wrap_u64]
        simp [IntKind.wrap, IntKind.bits, IntKind.signed]
        omega
      unfold wholeBR; rw [if_pos ⟨rfl, e⟩, w]
    · have e := of_decide_eq_false e
      refine Br.intro (fun _ => ?_) fun q => by cases q
      unfold wholeBR; rw [if_neg (by rintro ⟨_, q⟩; omega), if_pos (.inl rfl)]
def Fx_ref02_great := fun (a b : Int) (post : Bool × Unit → Prop) => ∀ (a_1 : Bool), a_1 = (a != (0 : Int)) → Br a_1 (∀ (a_2 : Bool), a_2 = decide (b > (11 : Int)) → Br a_2 (post
  (Bool.true, ())) (∃ (h : (0 : Int) ≤ IntKind.u64.wrap b), ∀ (a_3 : Bool), a_3 = decide (a > Int.fdiv (9223372036854775808 : Int) ((2 : Int) ^ Min.min (IntKind.u64.wrap b).toNat
  IntKind.u64.bits)) → post (a_3, ()))) (post (Bool.false, ()))
theorem Lx_ref02_great (a : Int) (b : Int) (h : WGreat a b) : Fx_ref02_great  a b (fun r => r = greatR a b) := by
  obtain ⟨m0, m1, e0, e1, hm⟩ := h
  rintro _ rfl
  refine Br.intro (fun q => ?_) fun q => ?_
  · have q : a ≠ 0 := bne_int.1 q
    rintro _ rfl
    refine Br.intro (fun g => ?_) fun g => ?_
    · have g : b > 11 := of_decide_eq_true g
      refine congrArg r1 (decide_eq_true ?_).symm
      have c2 : (2 : Int) ^ b.toNat = ((2 ^ b.toNat : Nat) : Int) := (Int.natCast_pow 2 _).symm
      have p : 2 ^ 12 ≤ 2 ^ b.toNat := Nat.pow_le_pow_right (by decide) (by omega)
      have p2 : (2 : Nat) ^ 12 = 4096 := by decide
      rw [c2]
      have := Int.mul_le_mul (a := 4503599627370496) (b := 4096) (c := a) (d := ((2 ^ b.toNat : Nat) : Int)) (by omega) (by omega) (by omega) (by omega)
      omega
    · have g : ¬ b > 11 := of_decide_eq_false g
      have hb : b = 0 ∨ b = 1 ∨ b = 2 ∨ b = 3 ∨ b = 4 ∨ b = 5 ∨ b = 6 ∨ b = 7 ∨ b = 8 ∨ b = 9 ∨ b = 10 ∨ b = 11 := by omega
      have key : ∀ (d k : Int), Int.fdiv 9223372036854775808 ((2 : Int) ^ Min.min (IntKind.u64.wrap b).toNat IntKind.u64.bits) = d → (2 : Int) ^ b.toNat = k → d * k = 9223372036854775808 → 1 ≤ k → (decide (a > Int.fdiv 9223372036854775808 ((2 : Int) ^ Min.min (IntKind.u64.wrap b).toNat IntKind.u64.bits))) = decide (9223372036854775808 < a * 2 ^ b.toNat) := by
        intro d k h1 h2 h3 h4
        rw [h1, h2]
        apply decide_eq_decide.2
        rw [← h3]
        exact (Int.mul_lt_mul_right (by omega)).symm
      refine ⟨by rw [IntKind.wrap_u64]; omega, ?_⟩
      intro z hz
      refine congrArg r1 (hz.trans ?_)
      rcases hb with rfl | rfl | rfl | rfl | rfl | rfl | rfl | rfl | rfl | rfl | rfl | rfl
      · exact key 9223372036854775808 1 (by decide) (by decide) (by decide) (by decide)
      · exact key 4611686018427387904 2 (by decide) (by decide) (by decide) (by decide)
      · exact key 2305843009213693952 4 (by decide) (by decide) (by decide) (by decide)
      · exact key 1152921504606846976 8 (by decide) (by decide) (by decide) (by decide)
      · exact key 576460752303423488 16 (by decide) (by decide) (by decide) (by decide)
      · exact key 288230376151711744 32 (by decide) (by decide) (by decide) (by decide)
      · exact key 144115188075855872 64 (by decide) (by decide) (by decide) (by decide)
      · exact key 72057594037927936 128 (by decide) (by decide) (by decide) (by decide)
      · exact key 36028797018963968 256 (by decide) (by decide) (by decide) (by decide)
      · exact key 18014398509481984 512 (by decide) (by decide) (by decide) (by decide)
      · exact key 9007199254740992 1024 (by decide) (by decide) (by decide) (by decide)
      · exact key 4503599627370496 2048 (by decide) (by decide) (by decide) (by decide)
  · have q : a = 0 := bne_int.2 q
    refine congrArg r1 (decide_eq_false ?_).symm
    rw [q, Int.zero_mul]; decide
end Go.Lift

/- Contracts of functions, of a seat. Own work. -/
set_option linter.unusedVariables false
set_option linter.unusedSimpArgs false
namespace Go.Lift
open Go.Proofs
def Zx_ref02_whole : Cx := ⟨tabOf Ztab, conOf [], ZG⟩
theorem Zx_ref02_whole_ok : CxOk Tryz.prog Zx_ref02_whole := ⟨tabB_sound Ztab_ok, fun f c h => by cases h⟩
theorem Zat_ref02_whole : FnAt Tryz.prog 122 Tryz.f122.ntmps Tryz.f122.results.toList (Tryz.f122.body.getD .skip) := ⟨Tryz.f122, Tryz.func122, rfl, rfl, by simp, by decide⟩
theorem Zeq_ref02_whole (a : Bool) (b : Int) (post : Int × Bool × Unit → Prop) : fnEval Zx_ref02_whole nHn Tryz.f122.ntmps Tryz.f122.results.toList (Tryz.f122.body.getD .skip) [.bool, .int .u64] [.snap (.int .i64), .snap .bool] (a, b, ()) post = Fx_ref02_whole  a b post := by kernel_rfl
theorem Zh_ref02_whole : Zq_ref02_whole.holds Tryz.prog ZG 122 :=
  detP Zx_ref02_whole_ok Zmixed nHn Zat_ref02_whole (F := fun x post => Fx_ref02_whole  x.1 x.2.1 post) (fun x post => Zeq_ref02_whole x.1 x.2.1 post) fun x h _ => Lx_ref02_whole  x.1 x.2.1 h
def Zx_ref02_great : Cx := ⟨tabOf Ztab, conOf [], ZG⟩
theorem Zx_ref02_great_ok : CxOk Tryz.prog Zx_ref02_great := ⟨tabB_sound Ztab_ok, fun f c h => by cases h⟩
theorem Zat_ref02_great : FnAt Tryz.prog 121 Tryz.f121.ntmps Tryz.f121.results.toList (Tryz.f121.body.getD .skip) := ⟨Tryz.f121, Tryz.func121, rfl, rfl, by simp, by decide⟩
theorem Zeq_ref02_great (a : Int) (b : Int) (post : Bool × Unit → Prop) : fnEval Zx_ref02_great nHn Tryz.f121.ntmps Tryz.f121.results.toList (Tryz.f121.body.getD .skip) [.int .u64, .int .i64] [.snap .bool] (a, b, ()) post = Fx_ref02_great  a b post := by kernel_rfl
theorem Zh_ref02_great : Zq_ref02_great.holds Tryz.prog ZG 121 :=
  detP Zx_ref02_great_ok Zmixed nHn Zat_ref02_great (F := fun x post => Fx_ref02_great  x.1 x.2.1 post) (fun x post => Zeq_ref02_great x.1 x.2.1 post) fun x h _ => Lx_ref02_great  x.1 x.2.1 h
end Go.Lift

/- Contracts of functions, of a seat. Own work. -/
set_option linter.unusedVariables false
set_option linter.unusedSimpArgs false
namespace Go.Lift
open Go.Proofs
def Zx_ref02_Round : Cx := ⟨tabOf Ztab, conOf [(77, Zq_ref02_parts), (121, Zq_ref02_great), (122, Zq_ref02_whole), (112, Zq_ref02_near)], ZG⟩
theorem Zx_ref02_Round_ok : CxOk Tryz.prog Zx_ref02_Round := ⟨tabB_sound Ztab_ok, conOf_sound ⟨Zh_ref02_parts, Zh_ref02_great, Zh_ref02_whole, Zh_ref02_near, trivial⟩⟩
theorem Zat_ref02_Round : FnAt Tryz.prog 85 Tryz.f85.ntmps Tryz.f85.results.toList (Tryz.f85.body.getD .skip) := ⟨Tryz.f85, Tryz.func85, rfl, rfl, by simp, by decide⟩
theorem Zeq_ref02_Round (a : Nat) (post : Int × Bool × Unit → Prop) : fnEval Zx_ref02_Round nHn Tryz.f85.ntmps Tryz.f85.results.toList (Tryz.f85.body.getD .skip) [.flt .f64] [.snap (.int .i64), .snap .bool] (a, ()) post = Fx_ref02_Round  a post := by kernel_rfl
theorem Zh_ref02_Round : Zq_ref02_Round.holds Tryz.prog ZG 85 :=
  detP Zx_ref02_Round_ok Zmixed nHn Zat_ref02_Round (F := fun x post => Fx_ref02_Round  x.1 post) (fun x post => Zeq_ref02_Round x.1 post) fun x h _ => Lx_ref02_Round  x.1 h
end Go.Lift

/- Contracts of functions, of a seat. Own work. -/
set_option linter.unusedVariables false
set_option linter.unusedSimpArgs false
namespace Go.Lift
open Go.Proofs
def Zx_ref08_Area : Cx := ⟨tabOf Ztab, conOf [(80, Zq_ref06_Place), (81, Zq_ref08_Corner), (84, Zq_ref07_Minus), (83, Zq_ref07_Cross), (82, Zq_ref07_Length), (85, Zq_ref02_Round)], ZG⟩
theorem Zx_ref08_Area_ok : CxOk Tryz.prog Zx_ref08_Area := ⟨tabB_sound Ztab_ok, conOf_sound ⟨Zh_ref06_Place, Zh_ref08_Corner, Zh_ref07_Minus, Zh_ref07_Cross, Zh_ref07_Length, Zh_ref02_Round, trivial⟩⟩
theorem Zat_ref08_Area : FnAt Tryz.prog 39 Tryz.f39.ntmps Tryz.f39.results.toList (Tryz.f39.body.getD .skip) := ⟨Tryz.f39, Tryz.func39, rfl, rfl, by simp, by decide⟩
theorem Zeq_ref08_Area (n : Int) (c : Int) (post : Int × Unit → Prop) : fnEval Zx_ref08_Area nHn Tryz.f39.ntmps Tryz.f39.results.toList (Tryz.f39.body.getD .skip) [.int .i64, .int .i64] [.snap (.int .i64)] (n, c, ()) post = Fx_ref08_Area  n c post := by kernel_rfl
theorem Zh_ref08_Area : Zq_ref08_Area.holds Tryz.prog ZG 39 :=
  detP Zx_ref08_Area_ok Zmixed nHn Zat_ref08_Area (F := fun x post => Fx_ref08_Area  x.1 x.2.1 post) (fun x post => Zeq_ref08_Area x.1 x.2.1 post) fun x h _ => Lx_ref08_Area  x.1 x.2.1 h
end Go.Lift
