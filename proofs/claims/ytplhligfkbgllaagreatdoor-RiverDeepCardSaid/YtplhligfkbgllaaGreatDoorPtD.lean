/- A part of the proof of RiverDeepCard: an own lifter of code into plain terms, and plain laws. -/
import Derived.Laws.Bits64
import Derived.Laws.Bits64b
import Derived.Laws.Externs
import Derived.Test.YtplhligfkbgllaaGreatDoorProg
import Derived.LaidMore
import Derived.MakeChecks
import Derived.Test.YtplhligfkbgllaaGreatDoorRows
import Derived.ProofKit
import Derived.SevenTiedAt
import Derived.Test.YtplhligfkbgllaaGreatDoorPtC
set_option linter.unusedVariables false
set_option linter.unusedSimpArgs false
set_option linter.unusedSectionVars false
set_option linter.unusedVariables false
set_option linter.unusedSimpArgs false
namespace Go.Lift
open Ieee
theorem signed_not (s : Bool) (m k : Nat) : signed (!s) m k = - signed s m k := by
  unfold signed; cases s <;> simp
theorem read_negF {b : Nat} (h : W64 b) : double.read (negF b) = (double.read b).opposite := by
  rw [read_eq, read_eq, (rung_negF h).1, sgn_negF h]
  split
  · rfl
  · split <;> rfl
theorem opp_opp (a : Datum) : a.opposite.opposite = a := by cases a <;> simp [Datum.opposite]
theorem sum_comm (a b : Datum) : a.sum b = b.sum a := by
  cases a with
  | nan s f => cases b <;> rfl
  | infinity s =>
    cases b with
    | infinity t =>
      simp only [Datum.sum]
      by_cases e : s = t
      · subst e; rfl
      · rw [if_neg e, if_neg (fun h => e h.symm)]
    | _ => rfl
  | number s m i =>
    cases b with
    | number t n j =>
      simp only [Datum.sum]
      rw [Int.min_comm i j, Int.add_comm (signed s m _), Bool.and_comm]
    | _ => rfl
theorem write_inf (s : Bool) : double.write (.infinity s) = double.word s infR := by
  show double.word s double.infRung = _
  rw [show double.infRung = infR by decide]
theorem sub_neg {x y : Nat} (hx : W64 x) (hy : W64 y) : subQ (negF x) (negF y) = subQ y x := by
  unfold subQ
  show (((double.read (negF x)).sum (double.read (negF y)).opposite).map double.write).getD QN = (((double.read y).sum (double.read x).opposite).map double.write).getD QN
  rw [read_negF hx, read_negF hy, opp_opp, sum_comm]
theorem product_opp (a b : Datum) : a.opposite.product b.opposite = a.product b := by
  cases a <;> cases b <;> simp [Datum.product, Datum.opposite]
theorem mul_neg {x y : Nat} (hx : W64 x) (hy : W64 y) : mulQ (negF x) (negF y) = mulQ x y := by
  unfold mulQ
  show (((double.read (negF x)).product (double.read (negF y))).map double.write).getD QN = (((double.read x).product (double.read y)).map double.write).getD QN
  rw [read_negF hx, read_negF hy, product_opp]
theorem sum_zero {x : Nat} (h : W64 x) (hn : isN x = false) (t : Bool) (j : Int) : ∃ w, ((double.read x).sum (.number t 0 j)).map double.write = some w ∧ isN w = false ∧ rungOf w = rungOf x ∧ (rungOf x ≠ 0 → w = x) := by
  rcases rung_trich x with ⟨h1, _⟩ | ⟨h1, _⟩ | ⟨_, h1⟩
  · rw [read_num h1]
    simp only [Datum.sum]
    have z : signed t 0 (j - min (placeOf (rungOf x)) j).toNat = 0 := by unfold signed; split <;> simp
    rw [z, Int.add_zero]
    have ea : (signed (sgn x) (magOf (rungOf x)) (placeOf (rungOf x) - min (placeOf (rungOf x)) j).toNat).natAbs = magOf (rungOf x) * 2 ^ (placeOf (rungOf x) - min (placeOf (rungOf x)) j).toNat := by
      unfold signed
      split
      · rw [Int.natAbs_neg, Int.natAbs_natCast, Nat.shiftLeft_eq]
      · rw [Int.natAbs_natCast, Nat.shiftLeft_eq]
    rw [ea]
    have er := rnd_scale (magOf (rungOf x)) (placeOf (rungOf x)) (placeOf (rungOf x) - min (placeOf (rungOf x)) j).toNat
    rw [show placeOf (rungOf x) - ((placeOf (rungOf x) - min (placeOf (rungOf x)) j).toNat : Int) = min (placeOf (rungOf x)) j by omega, rnd_exact h1] at er
    generalize hsg : (if signed (sgn x) (magOf (rungOf x)) (placeOf (rungOf x) - min (placeOf (rungOf x)) j).toNat = 0 then sgn x && t else decide (signed (sgn x) (magOf (rungOf x)) (placeOf (rungOf x) - min (placeOf (rungOf x)) j).toNat < 0)) = s'
    refine ⟨double.nearest s' _ _, rfl, ?_⟩
    rw [nearest_eq, er]
    obtain ⟨g1, g2, g3, g4⟩ := word_le (s := s') (Nat.le_of_lt h1)
    refine ⟨g1, g3, fun hz => ?_⟩
    have es : s' = sgn x := by
      have hm : magOf (rungOf x) ≠ 0 := by
        intro e
        have := rnd_exact h1
        rw [e, rnd_zero] at this
        exact hz this.symm
      have hp : 0 < magOf (rungOf x) * 2 ^ (placeOf (rungOf x) - min (placeOf (rungOf x)) j).toNat := Nat.mul_pos (by omega) (Nat.two_pow_pos _)
      rw [← ea] at hp
      rw [if_neg (by omega)] at hsg
      rw [← hsg]
      unfold signed
      cases hs : sgn x with
      | true =>
        simp only [if_true]
        rw [hs] at hp
        unfold signed at hp
        simp only [if_true] at hp
        rw [decide_eq_true]; omega
      | false =>
        simp only [Bool.false_eq_true, if_false]
        rw [decide_eq_false]; omega
    rw [es]; exact word_of h
  · rw [read_inf h1]
    refine ⟨double.write (.infinity (sgn x)), rfl, ?_⟩
    rw [write_inf]
    have e : double.word (sgn x) infR = x := by rw [← h1]; exact word_of h
    rw [e]
    exact ⟨hn, rfl, fun _ => rfl⟩
  · rw [hn] at h1; cases h1
theorem add_zero {x : Nat} (h : W64 x) (hn : isN x = false) : isN (addQ x 0) = false ∧ rungOf (addQ x 0) = rungOf x ∧ (rungOf x ≠ 0 → addQ x 0 = x) := by
  obtain ⟨w, h1, h2, h3, h4⟩ := sum_zero h hn false (-1074)
  have e0 : double.read 0 = .number false 0 (-1074) := by decide +kernel
  have e : addQ x 0 = w := by
    unfold addQ
    show (((double.read x).sum (double.read 0)).map double.write).getD QN = w
    rw [e0, h1]; rfl
  rw [e]; exact ⟨h2, h3, h4⟩
end Go.Lift

set_option linter.unusedVariables false
set_option linter.unusedSimpArgs false
namespace Go.Lift
open Ieee
end Go.Lift

set_option linter.unusedVariables false
set_option linter.unusedSimpArgs false
namespace Go.Lift
open Ieee
def NN (x : Nat) : Prop := W64 x ∧ isN x = false ∧ 0 ≤ keyOf' x
theorem NN.key {x : Nat} (h : NN x) : keyOf' x = rungOf x := by
  have := h.2.2
  unfold keyOf' at this ⊢
  split at this
  · rw [if_pos (by assumption)]; omega
  · rw [if_neg (by assumption)]
theorem NN.le {x : Nat} (h : NN x) : rungOf x ≤ infR := by have := h.2.1; unfold isN at this; simpa using this
theorem write_num (s : Bool) (m : Nat) (p : Int) : double.write (.number s m p) = double.word s (rnd m p) := nearest_eq s m p
end Go.Lift

set_option linter.unusedVariables false
set_option linter.unusedSimpArgs false
namespace Go.Lift
open Ieee
def Z (x : Nat) : Prop := W64 x ∧ isN x = false ∧ rungOf x = 0
def Eqv (r x : Nat) : Prop := isN r = false ∧ rungOf r = rungOf x ∧ (rungOf x ≠ 0 → r = x)
theorem read_Z {z : Nat} (h : Z z) : double.read z = .number (sgn z) 0 (-1074) := by
  rw [read_num (by rw [h.2.2]; decide), h.2.2]; rfl
theorem sub_of {x y : Nat} {d : Datum} (h : (double.read x).sum (double.read y).opposite = some d) : subQ x y = double.write d := by
  unfold subQ
  show (((double.read x).sum (double.read y).opposite).map double.write).getD QN = _
  rw [h]; rfl
theorem sub_Z {x z : Nat} (hx : W64 x) (hn : isN x = false) (hz : Z z) : Eqv (subQ x z) x := by
  obtain ⟨w, h1, h2, h3, h4⟩ := sum_zero hx hn (!sgn z) (-1074)
  have e : subQ x z = w := by
    unfold subQ
    show (((double.read x).sum (double.read z).opposite).map double.write).getD QN = w
    rw [read_Z hz]
    show (((double.read x).sum (.number (!sgn z) 0 (-1074))).map double.write).getD QN = w
    rw [h1]; rfl
  rw [e]; exact ⟨h2, h3, h4⟩
theorem Eqv.zero {r x : Nat} (hw : W64 r) (h : Eqv r x) (hx : rungOf x = 0) : Z r := ⟨hw, h.1, h.2.1.trans hx⟩
theorem sub_self {x : Nat} (h : rungOf x < infR) : Z (subQ x x) := by
  have hs : (double.read x).sum (double.read x).opposite = some (.number (sgn x && !sgn x) 0 (placeOf (rungOf x))) := by
    rw [read_num h]
    simp only [Datum.sum, Datum.opposite]
    rw [signed_not, Int.add_right_neg, Int.min_self]
    rfl
  have e := sub_of hs
  rw [write_num, rnd_zero] at e
  obtain ⟨h1, h2, h3, h4⟩ := word_le (s := sgn x && !sgn x) (Nat.zero_le infR)
  rw [e]; exact ⟨h2, h1, h3⟩
theorem sub_ZZ {x z : Nat} (hx : Z x) (hz : Z z) : Z (subQ x z) := (sub_Z hx.1 hx.2.1 hz).zero (subQ_w _ _) hx.2.2
theorem fin_nn {x : Nat} (h : rungOf x < infR) : isN x = false := by unfold isN; simp; omega
theorem Eqv.same {r x : Nat} (h : Eqv r x) (hx : rungOf x < infR) (hw : W64 r) (hxw : W64 x) : Z (subQ r x) ∧ Z (subQ x r) := by
  by_cases hz : rungOf x = 0
  · have z1 : Z x := ⟨hxw, fin_nn hx, hz⟩
    have z2 := h.zero hw hz
    exact ⟨sub_ZZ z2 z1, sub_ZZ z1 z2⟩
  · rw [h.2.2 hz]; exact ⟨sub_self hx, sub_self hx⟩
end Go.Lift

set_option linter.unusedVariables false
set_option linter.unusedSimpArgs false
namespace Go.Lift
open Ieee
theorem rnd_int {m : Nat} (h : m < 9007199254740992) : rnd m 0 < infR ∧ ∃ e : Nat, magOf (rnd m 0) = m * 2 ^ e ∧ placeOf (rnd m 0) = -(e : Int) := by
  by_cases h0 : m = 0
  · subst h0
    rw [rnd_zero]
    have z : ∀ e : Nat, magOf 0 = 0 * 2 ^ e := fun e => by rw [Nat.zero_mul]; decide
    refine ⟨by decide, ?_⟩
    obtain ⟨e, he⟩ : ∃ e : Nat, e = 1074 := ⟨_, rfl⟩
    exact ⟨e, z e, by rw [he]; decide⟩
  · have h1 : m.log2 ≤ 52 := by have := (Nat.log2_lt h0 (k := 53)).2 (by omega); omega
    have hL : lastP m 0 = (m.log2 : Int) - 52 := by unfold lastP; omega
    have hq1 : bin ≤ m * 2 ^ (52 - m.log2) := by
      have := (Nat.le_log2 h0 (k := m.log2)).1 (Nat.le_refl _)
      have h2 := Nat.mul_le_mul_right (2 ^ (52 - m.log2)) this
      rw [← Nat.pow_add, show m.log2 + (52 - m.log2) = 52 by omega] at h2
      exact h2
    have hq2 : m * 2 ^ (52 - m.log2) < 2 * bin := by
      have := (Nat.log2_lt h0 (k := m.log2 + 1)).1 (by omega)
      have h2 := Nat.mul_lt_mul_of_pos_right this (Nat.two_pow_pos (52 - m.log2))
      rw [← Nat.pow_add, show m.log2 + 1 + (52 - m.log2) = 53 by omega] at h2
      exact h2
    have hr : rnd m 0 = (m.log2 + 1022) * bin + m * 2 ^ (52 - m.log2) := by
      unfold rnd
      rw [if_neg h0, hL, show (0 - ((m.log2 : Int) - 52)).toNat = 52 - m.log2 by omega, show ((m.log2 : Int) - 52 - 0).toNat = 0 by omega, show ((m.log2 : Int) - 52 + 1074).toNat = m.log2 + 1022 by omega, cutE_zero]
      refine Nat.min_eq_left ?_
      unfold infR; unfold bin at *; omega
    rw [hr]
    obtain ⟨q, hq⟩ : ∃ q, q = m * 2 ^ (52 - m.log2) := ⟨_, rfl⟩
    rw [← hq] at hq1 hq2 ⊢
    unfold bin infR at *
    refine ⟨by omega, 52 - m.log2, ?_, ?_⟩
    · unfold magOf bin
      rw [if_neg (by omega)]
      rw [← hq]; omega
    · unfold placeOf bin
      rw [if_neg (by omega)]
      omega
def IsInt (x : Nat) (n : Int) : Prop := W64 x ∧ rungOf x = rnd n.natAbs 0 ∧ (n ≠ 0 → sgn x = decide (n < 0))
def Sm (n : Int) : Prop := -9007199254740992 < n ∧ n < 9007199254740992
theorem Sm.nat {n : Int} (h : Sm n) : n.natAbs < 9007199254740992 := by unfold Sm at h; omega
theorem IsInt.fin {x : Nat} {n : Int} (h : IsInt x n) (hs : Sm n) : rungOf x < infR := by rw [h.2.1]; exact (rnd_int hs.nat).1
theorem IsInt.nn {x : Nat} {n : Int} (h : IsInt x n) (hs : Sm n) : isN x = false := fin_nn (h.fin hs)
theorem IsInt.zero {x : Nat} (h : IsInt x 0) : Z x := ⟨h.1, h.nn (by unfold Sm; omega), by rw [h.2.1]; exact rnd_zero 0⟩
theorem Z.int {x : Nat} (h : Z x) : IsInt x 0 := ⟨h.1, by rw [h.2.2]; exact (rnd_zero 0).symm, fun e => absurd rfl e⟩
def BL (l : List Int) : Prop := ∀ v ∈ l, -1099511627776 < v ∧ v < 1099511627776
theorem BL.sum {l : List Int} (h : BL l) : -(1099511627776 * (l.length : Int)) ≤ l.sum ∧ l.sum ≤ 1099511627776 * (l.length : Int) := by
  induction l with
  | nil => simp
  | cons v l ih =>
    have h1 := h v List.mem_cons_self
    have h2 := ih fun x hx => h x (List.mem_cons_of_mem _ hx)
    rw [List.sum_cons, List.length_cons]
    omega
theorem BL.take {l : List Int} (h : BL l) (k : Nat) : BL (l.take k) := fun x hx => h x (List.mem_of_mem_take hx)
theorem BL.drop {l : List Int} (h : BL l) (k : Nat) : BL (l.drop k) := fun x hx => h x (List.mem_of_mem_drop hx)
end Go.Lift

set_option linter.unusedVariables false
set_option linter.unusedSimpArgs false
namespace Go.Lift
open Ieee
def U74 : Nat := 1074
def Reach (r v : Nat) : Prop := (bin < magOf r ∧ (2 * magOf r - 1) * (2 * magOf r - 1) * 2 ^ (2 * (placeOf r + 1074).toNat) < 4 * v) ∨ magOf r * magOf r * 2 ^ (2 * (placeOf r + 1074).toNat) ≤ v
theorem Reach.mono {r v v' : Nat} (h : Reach r v) (hv : v ≤ v') : Reach r v' := by
  rcases h with ⟨h1, h2⟩ | h
  · exact .inl ⟨h1, by omega⟩
  · exact .inr (by omega)
end Go.Lift

set_option linter.unusedVariables false
set_option linter.unusedSimpArgs false
namespace Go.Lift
open Ieee
end Go.Lift

set_option linter.unusedVariables false
set_option linter.unusedSimpArgs false
namespace Go.Lift
open Ieee
end Go.Lift

set_option linter.unusedVariables false
set_option linter.unusedSimpArgs false
namespace Go.Lift
open Ieee
end Go.Lift

set_option linter.unusedVariables false
set_option linter.unusedSimpArgs false
namespace Go.Lift
open Ieee
def oneR : Nat := 4607182418800017408
end Go.Lift

set_option linter.unusedVariables false
set_option linter.unusedSimpArgs false
namespace Go.Lift
open Ieee
theorem order_quiet {w v : Nat} (h : quietF w = v) (y : Nat) : double.order w y = double.order v y := by
  subst h
  unfold quietF
  split
  · rename_i e
    rw [order_nan (.inl e), order_nan (.inl QN_N)]
  · rfl
def Gd (x : Nat) : Prop := (isN x = false ∧ rungOf x = 0) ∨ (rungOf x < infR ∧ bin ≤ rungOf (mulQ x x) ∧ rungOf (mulQ x x) < infR)
theorem Gd.nn {x : Nat} (h : Gd x) : isN x = false := by
  rcases h with h | h
  · exact h.1
  · exact fin_nn h.1
theorem Gd.fin {x : Nat} (h : Gd x) : rungOf x < infR := by
  rcases h with h | h
  · rw [h.2]; decide
  · exact h.1
theorem small_sgn {r : Nat} (h : r < 9223372036854775808) : sgn r = false ∧ rungOf r = r ∧ W64 r := by
  have hw : W64 r := by unfold W64; omega
  refine ⟨?_, rung_lo h, hw⟩
  rw [sgn_dec hw]; simp; omega
end Go.Lift

set_option linter.unusedVariables false
set_option linter.unusedSimpArgs false
namespace Go.Lift
def hintH : List (Nat × LH) → Nat → Option LH := hintN
def kVec : K := .pair (.flt .f64) (.pair (.flt .f64) (.flt .f64))
def kSea : K := .pair (.slice (.flt .f64)) (.pair (.slice (.int .i64)) (.pair (.slice (.int .i64)) (.pair (.slice (.flt .f64)) (.pair (.int .i64) (.int .i64)))))
abbrev Ti := Int × Int × Int × List Int
abbrev Se := List Nat × List Int × List Int × List Nat × Int × Int
def framesL : List (List (List Int)) := [[[1, 0, 0], [0, 1, 0], [0, 0, 1]], [[0, 1, 0], [-1, 0, 0], [0, 0, 1]], [[-1, 0, 0], [0, -1, 0], [0, 0, 1]], [[0, -1, 0], [1, 0, 0], [0, 0, 1]], [[0, 0, 1], [0, 1, 0], [-1, 0, 0]], [[0, 0, -1], [0, 1, 0], [1, 0, 0]]]
def U8 (n : Int) : Prop := 0 ≤ n ∧ n < 256
def goodC (n : Int) : Bool := decide (1 ≤ n) && decide (n ≤ 32)
def goodCR (n : Int) : Bool × Unit := r1 (goodC n)
def cellsI (n : Int) : Int := if goodC n then 6 * n * n else 0
def cellsR (n : Int) : Int × Unit := r1 (cellsI n)
def placeOk (n c : Int) : Bool := decide (0 ≤ c) && decide (c < cellsI n)
def placeR4 (n c : Int) : Int × Int × Int × Bool × Unit := if placeOk n c then (c / (n * n), c % n, c / n % n, true, ()) else (0, 0, 0, false, ())
def ofI (n : Int) : Nat := FloatKind.f64.nearest n
def ofIR (n : Int) : Nat × Unit := r1 (ofI n)
def depthQ (w a : Int) : Nat := if w < 1 ∨ a < 1 then 0 else divQF (ofI w) (ofI a)
def depthR (w a : Int) : Nat × Unit := r1 (depthQ w a)
def II (a b : Int) : Prop := I64 a ∧ I64 b
def floorF (x : Nat) : Nat := Ieee.double.write ((Ieee.double.read x).integral .down)
def floorR (x : Nat) : Nat × Unit := r1 (floorF x)
def WNum (x : Nat) : Prop := W64 x ∧ isN x = false
def halfR : Nat := 4602678819172646912
def wholeI (x : Nat) : Int := ((Ieee.double.read x).toInt .zero).getD 0
def nearI (x : Nat) : Int := if fcmp .gtr (Ieee.double.order (subQ x (floorF x)) halfR) || (fcmp .eql (Ieee.double.order (subQ x (floorF x)) halfR) && (wholeI (floorF x) % 2 == 1)) then wholeI (floorF x) + 1 else wholeI (floorF x)
def nearR (x : Nat) : Int × Unit := r1 (nearI x)
def two63 : Nat := 4890909195324358656
def WNear (x : Nat) : Prop := x < two63
def roundI (x : Nat) : Int × Bool := if rungOf x < two63 then ((if sgn x && decide (rungOf x ≠ 0) then IntKind.i64.wrap (0 - IntKind.i64.wrap (nearI (rungOf x))) else IntKind.i64.wrap (nearI (rungOf x))), true) else if x = two63 + 9223372036854775808 then (-9223372036854775808, true) else (0, false)
def roundR (x : Nat) : Int × Bool × Unit := ((roundI x).1, (roundI x).2, ())
def ratioQ (a b : Int) : Nat := divQF (ofI a) (ofI b)
def ratioR (a b : Int) : Nat × Unit := r1 (ratioQ a b)
def WRatio (a b : Int) : Prop := I64 a ∧ 1 ≤ b ∧ I64 b
def axisF (m : Int) (v c : Nat) : Nat := if m = 1 then canonF v else if m = -1 then canonF (negF v) else c
def frameI (f : Int) (j i : Nat) : Int := List.getD (List.getD (framesL.getD f.toNat (K.arr 3 (K.arr 3 (K.int .i64))).dflt) j (K.arr 3 (K.int .i64)).dflt) i 0
def axisP (f : Int) (s t : Nat) (i : Nat) : Nat := axisF (frameI f 2 i) t (axisF (frameI f 1 i) s (axisF (frameI f 0 i) oneR 0))
def pointQ (f : Int) (s t : Nat) : Nat × Nat × Nat := unitV (axisP f s t 0, axisP f s t 1, axisP f s t 2)
def pointR (f : Int) (s t : Nat) : (Nat × Nat × Nat) × Unit := r1 (pointQ f s t)
def WPoint (f : Int) (s t : Nat) : Prop := 0 ≤ f ∧ f ≤ 5 ∧ W64 s ∧ W64 t
def cornerOk (n f i j : Int) : Bool := goodC n && decide (0 ≤ f) && decide (f ≤ 5) && decide (0 ≤ i) && decide (i ≤ n) && decide (0 ≤ j) && decide (j ≤ n)
def cornerQ (n f i j : Int) : Nat × Nat × Nat := pointQ f (ratioQ (2 * i - n) n) (ratioQ (2 * j - n) n)
def cornerR (n f i j : Int) : (Nat × Nat × Nat) × Bool × Unit := if cornerOk n f i j then (cornerQ n f i j, true, ()) else ((0, 0, 0), false, ())
def IIII (a b c d : Int) : Prop := I64 a ∧ I64 b ∧ I64 c ∧ I64 d
def cornersR (n c : Int) : List (Nat × Nat × Nat) × Bool × Unit :=
  if placeOk n c then ([cornerQ n (c / (n * n)) (c % n) (c / n % n), cornerQ n (c / (n * n)) (c % n + 1) (c / n % n), cornerQ n (c / (n * n)) (c % n + 1) (c / n % n + 1), cornerQ n (c / (n * n)) (c % n) (c / n % n + 1)], true, ())
  else ([(0, 0, 0), (0, 0, 0), (0, 0, 0), (0, 0, 0)], false, ())
def cornerC (n c : Int) (i j : Int) : Nat × Nat × Nat := cornerQ n (c / (n * n)) (c % n + i) (c / n % n + j)
def unitArea : Nat := 4742290407621132288
def spanQ (n c : Int) : Nat := lengthQ (crossV (minusV (cornerC n c 1 1) (cornerC n c 0 0)) (minusV (cornerC n c 0 1) (cornerC n c 1 0)))
def areaI (n c : Int) : Int := if placeOk n c then imax (roundI (mulQ (mulQ (spanQ n c) halfR) unitArea)).1 1 else 0
def areaR (n c : Int) : Int × Unit := r1 (areaI n c)
def firstI {α : Type} (p : α → Bool) : Int → List α → Int
  | _, [] => -1
  | i, x :: xs => if p x then i else firstI p (i + 1) xs
def SeaOk (s : Se) : Prop := WL s.1 ∧ (∀ x ∈ s.2.1, I64 x) ∧ (∀ x ∈ s.2.2.1, I64 x) ∧ WL s.2.2.2.1 ∧ I64 s.2.2.2.2.1 ∧ I64 s.2.2.2.2.2
def WCheck (n : Int) (s : Se) : Prop := I64 n ∧ SeaOk s
def BLs (b : List Int) : Prop := ∀ x ∈ b, U8 x
end Go.Lift

set_option linter.unusedVariables false
set_option linter.unusedSimpArgs false
namespace Go.Lift
open Ieee
theorem cutZ_le (way : Toward) (hw : way = .down ∨ way = .zero) (n d : Nat) : way.cut false n d ≤ n := by
  rcases hw with rfl | rfl <;> simp only [Toward.cut, Bool.false_and, Bool.toNat_false, Nat.add_zero] <;> exact Nat.div_le_self _ _
theorem pow_split (m a b : Nat) : m * 2 ^ (a + b) = m * 2 ^ a * 2 ^ b := by rw [Nat.pow_add, Nat.mul_assoc]
theorem val_up {r : Nat} (u : Nat) (hu : u = 1074) (hp : 0 ≤ placeOf r) : valR r = magOf r * 2 ^ (placeOf r).toNat * 2 ^ u := by
  have e : (placeOf r + 1074).toNat = (placeOf r).toNat + u := by omega
  unfold valR
  rw [e, pow_split]
theorem le_pow {a b u : Nat} (h : a * 2 ^ u ≤ b * 2 ^ u) : a ≤ b := Nat.le_of_mul_le_mul_right h (Nat.two_pow_pos u)
theorem val_63 : valR two63 = 9223372036854775808 * 2 ^ U74 := by decide +kernel
theorem whole_le {way : Toward} (hw : way = .down ∨ way = .zero) {r : Nat} (h : r ≤ two63) : way.cut false (magOf r <<< (placeOf r).toNat) (-placeOf r).toNat ≤ 9223372036854775808 := by
  have hv := (valR_le (r := r) (r' := two63)).2 h
  refine Nat.le_trans (cutZ_le way hw _ _) ?_
  rw [Nat.shiftLeft_eq]
  by_cases hp : 0 ≤ placeOf r
  · rw [val_up U74 rfl hp, val_63] at hv
    exact le_pow hv
  · have e : (placeOf r).toNat = 0 := by omega
    rw [e, Nat.pow_zero, Nat.mul_one]
    unfold magOf
    split
    · unfold bin at *; omega
    · have := Nat.mod_lt r (show 0 < bin by decide); unfold bin at *; omega
theorem floor_word {a : Nat} (h : a < two63) : ∃ k, k ≤ 9223372036854775808 ∧ floorF a = double.word false (rnd k 0) := by
  have hs : rungOf a = a := rung_lo (by unfold two63 at h; omega)
  have hg : sgn a = false := (small_sgn (by unfold two63 at h; omega)).1
  have hi : rungOf a < infR := by rw [hs]; unfold two63 at h; unfold infR; omega
  refine ⟨Toward.down.cut false (magOf a <<< (placeOf a).toNat) (-placeOf a).toNat, whole_le (.inl rfl) (Nat.le_of_lt h), ?_⟩
  unfold floorF
  rw [read_num hi, hs, hg]
  show double.nearest false _ 0 = _
  rw [nearest_eq]
theorem rnd63 {k : Nat} (h : k ≤ 9223372036854775808) : rnd k 0 ≤ two63 := by
  have := rnd_mono' 0 h
  have e : rnd 9223372036854775808 0 = two63 := by decide +kernel
  omega
theorem floor_read {a : Nat} (h : a < two63) : ∃ r, r ≤ two63 ∧ floorF a = double.word false r ∧ double.read (floorF a) = .number false (magOf r) (placeOf r) := by
  obtain ⟨k, hk, e⟩ := floor_word h
  have hr := rnd63 hk
  refine ⟨rnd k 0, hr, e, ?_⟩
  rw [e]
  obtain ⟨w1, w2, w3⟩ := word_parts (s := false) (r := rnd k 0) (by unfold two63 at hr; unfold sw; omega)
  rw [read_num (by rw [w1]; unfold two63 at hr; unfold infR; omega), w1, w2]
theorem whole_rng {a : Nat} (h : a < two63) : (double.read (floorF a)).toInt .zero = some (wholeI (floorF a)) ∧ 0 ≤ wholeI (floorF a) ∧ wholeI (floorF a) ≤ 9223372036854775808 := by
  obtain ⟨r, hr, _, e⟩ := floor_read h
  unfold wholeI
  rw [e]
  have := whole_le (way := .zero) (.inr rfl) hr
  refine ⟨rfl, ?_⟩
  show 0 ≤ signed false (Toward.zero.cut false (magOf r <<< (placeOf r).toNat) (-placeOf r).toNat) 0 ∧ signed false (Toward.zero.cut false (magOf r <<< (placeOf r).toNat) (-placeOf r).toNat) 0 ≤ 9223372036854775808
  generalize Toward.zero.cut false (magOf r <<< (placeOf r).toNat) (-placeOf r).toNat = q at this
  have e : signed false q 0 = (q : Int) := by unfold signed; rw [if_neg (by decide), Nat.shiftLeft_zero]
  rw [e]
  omega
theorem floor_int {a : Nat} (h : a < two63) {n : Int} (hn : F2I .f64 (floorF a) .u64 n) : n = wholeI (floorF a) := by
  obtain ⟨h1, h2, h3⟩ := whole_rng h
  unfold F2I at hn
  rw [show (FloatKind.f64.format.read (floorF a)).toInt .zero = some (wholeI (floorF a)) from h1] at hn
  dsimp only at hn
  rwa [if_pos ⟨by show (0 : Int) ≤ _; exact h2, by show _ ≤ (18446744073709551615 : Int); omega⟩] at hn
theorem lss_rung (a : Nat) : fcmp .lss (double.order (rungOf a) two63) = decide (rungOf a < two63) := by
  have hs := small_sgn (rung_lt a)
  have ht := small_sgn (show two63 < 9223372036854775808 by decide)
  by_cases hn : isN (rungOf a) = true
  · rw [order_nan (.inl hn)]
    unfold isN at hn; rw [hs.2.1] at hn
    have := of_decide_eq_true hn
    symm; show decide _ = false
    rw [decide_eq_false_iff_not]; unfold two63; unfold infR at this; omega
  · rw [order_eq (by simpa using hn) (by decide)]
    unfold keyOf'
    rw [hs.1, ht.1, hs.2.1, ht.2.1]
    simp only [Bool.false_eq_true, if_false, fcmp]
    by_cases h : rungOf a < two63
    · rw [decide_eq_true h, Std.compare_eq_lt.2 (by omega)]; rfl
    · rw [decide_eq_false h]
      rcases Nat.lt_or_eq_of_le (Nat.le_of_not_lt h) with g | g
      · rw [Std.compare_eq_gt.2 (by omega)]; rfl
      · rw [← g, Std.compare_self]; rfl
theorem lss_nought {a : Nat} (hn : isN a = false) : fcmp .lss (double.order a 0) = (sgn a && decide (rungOf a ≠ 0)) := by
  rw [order_eq hn (by decide)]
  have e : keyOf' 0 = 0 := by decide
  rw [e]
  unfold keyOf'
  simp only [fcmp]
  cases hs : sgn a
  · simp only [Bool.false_eq_true, if_false, Bool.false_and]
    rcases Nat.eq_zero_or_pos (rungOf a) with g | g
    · rw [g]; rfl
    · rw [Std.compare_eq_gt.2 (by omega)]; rfl
  · simp only [if_true, Bool.true_and]
    rcases Nat.eq_zero_or_pos (rungOf a) with g | g
    · rw [g]; rfl
    · rw [Std.compare_eq_lt.2 (by omega), decide_eq_true (by omega)]; rfl
theorem eql_min {a : Nat} (h : W64 a) : fcmp .eql (double.order a 14114281232179134464) = decide (a = 14114281232179134464) := by
  by_cases hn : isN a = true
  · rw [order_nan (.inl hn)]
    symm; show decide _ = false
    rw [decide_eq_false_iff_not]; rintro rfl; revert hn; decide
  · have hn : isN a = false := by simpa using hn
    rw [order_eq hn (by decide)]
    have e : keyOf' 14114281232179134464 = -4890909195324358656 := by decide
    rw [e]
    simp only [fcmp]
    by_cases g : a = 14114281232179134464
    · subst g; decide
    · rw [decide_eq_false g]
      have : keyOf' a ≠ -4890909195324358656 := by
        intro hk
        unfold keyOf' at hk
        split at hk
        · rename_i hs
          have := (sgn_iff h).1 hs
          rw [rung_hi h this] at hk
          omega
        · omega
      rcases Int.lt_or_gt_of_ne this with q | q
      · rw [Std.compare_eq_lt.2 q]; rfl
      · rw [Std.compare_eq_gt.2 q]; rfl
end Go.Lift

set_option linter.unusedVariables false
set_option linter.unusedSimpArgs false
namespace Go.Lift
open Ieee
theorem goodC_iff {n : Int} : goodC n = true ↔ 1 ≤ n ∧ n ≤ 32 := by unfold goodC; simp
theorem sq_bd {n : Int} (h1 : 1 ≤ n) (h2 : n ≤ 32) : 1 ≤ n * n ∧ n * n ≤ 1024 := by
  have a := Int.mul_le_mul h1 h1 (by omega) (by omega)
  have b := Int.mul_le_mul h2 h2 (by omega) (by omega)
  omega
theorem cells_good {n : Int} (h : goodC n = true) : cellsI n = 6 * (n * n) := by
  unfold cellsI; rw [if_pos h, Int.mul_assoc]
theorem cells_bad {n : Int} (h : goodC n = false) : cellsI n = 0 := by
  unfold cellsI; rw [if_neg (by rw [h]; decide)]
theorem cells_wrap {a : Int} (h : goodC a = true) : IntKind.i64.wrap (IntKind.i64.wrap (6 * a) * a) = cellsI a := by
  obtain ⟨h1, h2⟩ := goodC_iff.1 h
  have := sq_bd h1 h2
  rw [cells_good h, wi (x := 6 * a) ⟨by omega, by omega⟩, Int.mul_assoc, wi ⟨by omega, by omega⟩]
theorem place_facts {n c : Int} (h : placeOk n c = true) : 1 ≤ n ∧ n ≤ 32 ∧ 0 ≤ c ∧ c < 6 * (n * n) ∧ 1 ≤ n * n ∧ n * n ≤ 1024 := by
  unfold placeOk at h
  simp only [Bool.and_eq_true, decide_eq_true_eq] at h
  cases hg : goodC n with
  | false => rw [cells_bad hg] at h; omega
  | true =>
    rw [cells_good hg] at h
    obtain ⟨h1, h2⟩ := goodC_iff.1 hg
    have := sq_bd h1 h2
    omega
theorem place_rng {n c : Int} (h : placeOk n c = true) : 0 ≤ c / (n * n) ∧ c / (n * n) ≤ 5 ∧ 0 ≤ c % n ∧ c % n < n ∧ 0 ≤ c / n % n ∧ c / n % n < n := by
  obtain ⟨h1, h2, h3, h4, h5, h6⟩ := place_facts h
  refine ⟨Int.ediv_nonneg h3 (by omega), ?_, Int.emod_nonneg _ (by omega), Int.emod_lt_of_pos _ (by omega), Int.emod_nonneg _ (by omega), Int.emod_lt_of_pos _ (by omega)⟩
  have := Int.ediv_lt_of_lt_mul (a := c) (b := 6) (c := n * n) (by omega) h4
  omega
theorem sub_congr_order {x y b : Nat} (h : FRes .f64 (FloatKind.f64.format.sub x y) b) (z : Nat) : double.order b z = double.order (subQ x y) z := order_quiet (fsub h).1 z
theorem wu1 {x : Int} (h : 0 ≤ x ∧ x < 18446744073709551616) : IntKind.u64.wrap x = x := wu x h
theorem ofI_word {n : Int} (h : 1 ≤ n) (h2 : I64 n) : ofI n = double.word false (rnd n.toNat 0) ∧ bin ≤ rnd n.toNat 0 ∧ rnd n.toNat 0 < infR := by
  have e : ofI n = double.word false (rnd n.toNat 0) := by
    show double.nearest (decide (n < 0)) n.natAbs 0 = _
    rw [nearest_eq, decide_eq_false (by omega)]
    congr 2; omega
  refine ⟨e, ?_, ?_⟩
  · have := rnd_mono' (m := 1) (m' := n.toNat) 0 (by omega)
    have e : bin ≤ rnd 1 0 := by decide +kernel
    omega
  · have := rnd_mono' (m := n.toNat) (m' := 9223372036854775808) 0 (by unfold I64 at h2; omega)
    have e : rnd 9223372036854775808 0 < infR := by decide +kernel
    omega
theorem ofI_fin (n : Int) (h2 : I64 n) : rungOf (ofI n) < infR ∧ W64 (ofI n) := by
  have e : ofI n = double.word (decide (n < 0)) (rnd n.natAbs 0) := by
    show double.nearest (decide (n < 0)) n.natAbs 0 = _
    rw [nearest_eq]
  have := rnd_mono' (m := n.natAbs) (m' := 9223372036854775808) 0 (by unfold I64 at h2; omega)
  have e2 : rnd 9223372036854775808 0 < infR := by decide +kernel
  obtain ⟨w1, w2, w3⟩ := word_parts (s := decide (n < 0)) (r := rnd n.natAbs 0) (by unfold infR at e2; unfold sw; omega)
  rw [e]
  exact ⟨by rw [w1]; omega, w3⟩
theorem div_some {x y : Nat} (hx : rungOf x < infR) (hy : rungOf y < infR) (h0 : rungOf y ≠ 0) : double.div x y = some (divQF x y) := by
  unfold divQF
  have : ∃ d, double.div x y = some d := by
    unfold Format.div
    rw [read_num hx, read_num hy]
    unfold Datum.quotient
    dsimp only
    rw [if_neg (by
      intro h
      have : valR (rungOf y) = 0 := by unfold valR; rw [h, Nat.zero_mul]
      exact h0 (valR_eq_zero.1 this))]
    exact ⟨_, rfl⟩
  obtain ⟨d, e⟩ := this
  rw [e]; rfl
theorem div_exact {x y b : Nat} (hx : rungOf x < infR) (hy : rungOf y < infR) (h0 : rungOf y ≠ 0) (h : FRes .f64 (FloatKind.f64.format.div x y) b) : b = divQF x y := by
  unfold FRes at h
  rw [show FloatKind.f64.format.div x y = some (divQF x y) from div_some hx hy h0] at h
  exact h
theorem ofI_pos {n : Int} (h : 1 ≤ n) (h2 : I64 n) : rungOf (ofI n) < infR ∧ rungOf (ofI n) ≠ 0 := by
  obtain ⟨e, e1, e2⟩ := ofI_word h h2
  obtain ⟨w1, w2, w3⟩ := word_parts (s := false) (r := rnd n.toNat 0) (by unfold infR at e2; unfold sw; omega)
  rw [e, w1]
  exact ⟨e2, by unfold bin at e1; omega⟩
theorem div_ofI {a b : Int} (ha : I64 a) (hb : 1 ≤ b) (hb2 : I64 b) {r : Nat} (h : FRes .f64 (FloatKind.f64.format.div (ofI a) (ofI b)) r) : r = divQF (ofI a) (ofI b) :=
  div_exact (ofI_fin a ha).1 (ofI_pos hb hb2).1 (ofI_pos hb hb2).2 h
theorem br_axis {m : Int} {v c : Nat} {P : Nat → Prop} (h : P (axisF m v c)) {X Y Z : Prop} (hx : P (canonF v) → X) (hy : P (canonF (negF v)) → Y) (hz : P c → Z) : Br (m == 1) X (Br (m == -1) Y Z) := by
  unfold axisF at h
  refine Br.intro (fun e => ?_) fun e => ?_
  · have e : m = 1 := by simpa using e
    rw [if_pos e] at h; exact hx h
  · have e : ¬ m = 1 := by simpa using e
    rw [if_neg e] at h
    refine Br.intro (fun g => ?_) fun g => ?_
    · have g : m = -1 := by simpa using g
      rw [if_pos g] at h; exact hy h
    · have g : ¬ m = -1 := by simpa using g
      rw [if_neg g] at h; exact hz h
theorem axisF_w {m : Int} {v c : Nat} (hv : W64 v) (hc : W64 c) : W64 (axisF m v c) := by
  unfold axisF
  split
  · exact canonF_w hv
  · split
    · exact canonF_w (negF_w hv)
    · exact hc
theorem axisP_w (f : Int) {s t : Nat} (hs : W64 s) (ht : W64 t) (i : Nat) : W64 (axisP f s t i) :=
  axisF_w ht (axisF_w hs (axisF_w (by unfold W64 oneR; decide) (by unfold W64; decide)))
theorem ratio_wrap {n i : Int} (h1 : 1 ≤ n) (h2 : n ≤ 32) (h3 : 0 ≤ i) (h4 : i ≤ n) : IntKind.i64.wrap (IntKind.i64.wrap (2 * i) - n) = 2 * i - n ∧ WRatio (2 * i - n) n := by
  rw [wi (x := 2 * i) ⟨by omega, by omega⟩, wi ⟨by omega, by omega⟩]
  exact ⟨rfl, ⟨by omega, by omega⟩, h1, by omega, by omega⟩
theorem wv0 : WV (0, 0, 0) := ⟨by unfold W64; decide, by unfold W64; decide, by unfold W64; decide⟩
theorem unitV_w (a : Nat × Nat × Nat) : WV (unitV a) := by
  unfold unitV
  split
  · exact canonV_w (divQF_w _ _) (divQF_w _ _) (divQF_w _ _)
  · exact wv0
theorem crossV_w (a b : Nat × Nat × Nat) : WV (crossV a b) := canonV_w (subQ_w _ _) (subQ_w _ _) (subQ_w _ _)
theorem cornerQ_w (n f i j : Int) : WV (cornerQ n f i j) := unitV_w _
theorem corners_w (n c : Int) (i : Nat) : WV ((cornersR n c).1.getD i (0, 0, 0)) := by
  unfold cornersR
  split
  · match i with
    | 0 => exact cornerQ_w _ _ _ _
    | 1 => exact cornerQ_w _ _ _ _
    | 2 => exact cornerQ_w _ _ _ _
    | 3 => exact cornerQ_w _ _ _ _
    | k + 4 => exact wv0
  · match i with
    | 0 => exact wv0
    | 1 => exact wv0
    | 2 => exact wv0
    | 3 => exact wv0
    | k + 4 => exact wv0
theorem span_l {l : List (Nat × Nat × Nat)} {a b c d z : Nat × Nat × Nat} (h : l = [a, b, c, d]) : (lengthR (crossR (minusR (l.getD (Int.toNat (2 : Int)) z) (l.getD (Int.toNat (0 : Int)) z)).fst (minusR (l.getD (Int.toNat (3 : Int)) z) (l.getD (Int.toNat (1 : Int)) z)).fst).fst).fst = lengthQ (crossV (minusV c a) (minusV d b)) := by
  subst h; rfl
theorem corners_len (n c : Int) : (cornersR n c).1.length = 4 := by unfold cornersR; split <;> rfl
theorem corners_ok (n c : Int) : (cornersR n c).2.1 = placeOk n c := by
  unfold cornersR
  cases h : placeOk n c
  · rfl
  · rfl
theorem round_quiet {x : Nat} (h : W64 x) : roundI x = roundI (quietF x) := by
  unfold quietF
  split
  · rename_i e
    have q : roundI QN = (0, false) := by decide +kernel
    rw [q]
    unfold roundI
    have : infR < rungOf x := by unfold isN at e; exact of_decide_eq_true e
    rw [if_neg (by unfold two63; unfold infR at this; omega), if_neg (by
      rintro rfl
      revert this; decide)]
  · rfl
theorem drop_step {α : Type} {l : List α} {i : Nat} (h : i < l.length) (d : α) : l.drop i = l.getD i d :: l.drop (i + 1) := by
  rw [List.drop_eq_getElem_cons h, List.getD_eq_getElem?_getD, List.getElem?_eq_getElem h]; rfl
theorem wi_succ {i : Nat} {n : Nat} (h : i < n) (hn : n ≤ 9223372036854775807) : IntKind.i64.wrap ((i : Int) + 1) = ((i + 1 : Nat) : Int) := by
  rw [wi ⟨by omega, by omega⟩]; omega
theorem getD_mem {α : Type} {l : List α} {i : Nat} (h : i < l.length) (d : α) : l.getD i d ∈ l := by
  rw [List.getD_eq_getElem?_getD, List.getElem?_eq_getElem h]; exact List.getElem_mem h
theorem firstI_cons {α : Type} (p : α → Bool) (i : Int) (x : α) (xs : List α) : firstI p i (x :: xs) = if p x then i else firstI p (i + 1) xs := rfl
theorem cells_rng (n : Int) : 0 ≤ cellsI n ∧ cellsI n ≤ 6144 := by
  cases hg : goodC n with
  | false => rw [cells_bad hg]; omega
  | true => rw [cells_good hg]; have := sq_bd (goodC_iff.1 hg).1 (goodC_iff.1 hg).2; omega
end Go.Lift

set_option linter.unusedVariables false
set_option linter.unusedSimpArgs false
namespace Go.Lift
theorem take_step {α : Type} {l : List α} {i : Nat} (h : i < l.length) (d : α) : l.take (i + 1) = l.take i ++ [l.getD i d] := by
  rw [List.take_add_one, List.getD_eq_getElem?_getD, List.getElem?_eq_getElem h]; rfl
theorem set_mid {α : Type} {P R : List α} {i : Nat} (h : P.length = i) (z v : α) : (P ++ z :: R).set i v = P ++ v :: R := by
  subst h
  rw [List.set_append_right _ _ (Nat.le_refl _), Nat.sub_self]; rfl
end Go.Lift

set_option linter.unusedVariables false
set_option linter.unusedSimpArgs false
namespace Go.Lift
theorem wrap_rng (x : Int) : I64 (IntKind.i64.wrap x) := by
  unfold I64
  have : IntKind.i64.wrap x = x % 18446744073709551616 ∨ IntKind.i64.wrap x = x % 18446744073709551616 - 18446744073709551616 ∧ 9223372036854775808 ≤ x % 18446744073709551616 := by
    show (if (true && decide (x % 18446744073709551616 ≥ 9223372036854775808)) = true then x % 18446744073709551616 - 18446744073709551616 else x % 18446744073709551616) = _ ∨ (if (true && decide (x % 18446744073709551616 ≥ 9223372036854775808)) = true then x % 18446744073709551616 - 18446744073709551616 else x % 18446744073709551616) = _ ∧ _
    by_cases q : 9223372036854775808 ≤ x % 18446744073709551616
    · rw [if_pos (by simpa using q)]; exact .inr ⟨rfl, q⟩
    · rw [if_neg (by simpa using q)]; exact .inl rfl
  have h2 : ¬ 9223372036854775808 ≤ x % 18446744073709551616 → IntKind.i64.wrap x = x % 18446744073709551616 := fun q => this.resolve_right fun r => q r.2
  by_cases q : 9223372036854775808 ≤ x % 18446744073709551616
  · have h3 : IntKind.i64.wrap x = x % 18446744073709551616 - 18446744073709551616 := by
      show (if (true && decide (x % 18446744073709551616 ≥ 9223372036854775808)) = true then x % 18446744073709551616 - 18446744073709551616 else x % 18446744073709551616) = _
      rw [if_pos (by simpa using q)]
    omega
  · have := h2 q
    omega
theorem round_rng (x : Nat) : I64 (roundI x).1 := by
  unfold roundI
  split
  · split
    · exact wrap_rng _
    · exact wrap_rng _
  · split
    · exact ⟨by decide, by decide⟩
    · exact ⟨by decide, by decide⟩
theorem area_rng (n c : Int) : I64 (areaI n c) ∧ 0 ≤ areaI n c := by
  unfold areaI
  split
  · have := round_rng (mulQ (mulQ (spanQ n c) halfR) unitArea)
    unfold imax I64 at *
    split <;> omega
  · exact ⟨⟨by decide, by decide⟩, by decide⟩
theorem range_map_succ {α : Type} (g : Nat → α) (k : Nat) : (List.range (k + 1)).map g = (List.range k).map g ++ [g k] := by
  rw [List.range_succ, List.map_append]; rfl
end Go.Lift

set_option linter.unusedVariables false
set_option linter.unusedSimpArgs false
namespace Go.Lift
end Go.Lift

set_option linter.unusedVariables false
set_option linter.unusedSimpArgs false
namespace Go.Lift
open Ieee
end Go.Lift

set_option linter.unusedVariables false
set_option linter.unusedSimpArgs false
namespace Go.Lift
open Ieee
end Go.Lift

set_option linter.unusedVariables false
set_option linter.unusedSimpArgs false
namespace Go.Lift
open Ieee
end Go.Lift

set_option linter.unusedVariables false
set_option linter.unusedSimpArgs false
namespace Go.Lift
end Go.Lift

set_option linter.unusedVariables false
set_option linter.unusedSimpArgs false
namespace Go.Lift
open Ieee
end Go.Lift

set_option linter.unusedVariables false
set_option linter.unusedSimpArgs false
namespace Go.Lift
def kWay : K := .arr 3 (.int .i64)
def kFrame : K := .arr 3 (.arr 3 (.int .i64))
def kEdge : K := .pair (.int .i64) (.pair (.int .i64) (.pair (.int .i64) (.int .i64)))
def kNums : K := .map (.pair (.int .i64) (.int .i64)) (.int .i64)
def kGrid : K := .pair (.int .i64) (.pair (.slice kEdge) (.pair kNums (.pair (.slice (.arr 2 (.int .i64))) (.pair (.slice (.int .i64)) (.pair (.slice (.flt .f64)) (.slice (.flt .f64)))))))
abbrev Ed := Int × Int × Int × Int
abbrev Nm := List ((Int × Int) × Int)
abbrev Gr := Int × List Ed × Nm × List (List Int) × List Int × List Nat × List Nat
def Bd (m : Int) (w : List Int) : Prop := ∀ i : Nat, -m ≤ w.getD i 0 ∧ w.getD i 0 ≤ m
def timesW (w : List Int) (k : Int) : List Int := [k * w.getD 0 0, k * w.getD 1 0, k * w.getD 2 0]
def timesR (w : List Int) (k : Int) : List Int × Unit := r1 (timesW w k)
def WTimes (w : List Int) (k : Int) : Prop := Bd 4096 w ∧ -4096 ≤ k ∧ k ≤ 4096
def plusW (w v : List Int) : List Int := [w.getD 0 0 + v.getD 0 0, w.getD 1 0 + v.getD 1 0, w.getD 2 0 + v.getD 2 0]
def plusR (w v : List Int) : List Int × Unit := r1 (plusW w v)
def WPlus (w v : List Int) : Prop := Bd 1099511627776 w ∧ Bd 1099511627776 v
def dotW (w v : List Int) : Int := w.getD 0 0 * v.getD 0 0 + w.getD 1 0 * v.getD 1 0 + w.getD 2 0 * v.getD 2 0
def dotR (w v : List Int) : Int × Unit := r1 (dotW w v)
def WDot (w v : List Int) : Prop := Bd 1048576 w ∧ Bd 1048576 v
def wayAt (f : List (List Int)) (i : Nat) : List Int := f.getD i [0, 0, 0]
def outF (f : List (List Int)) (s : Int) : List Int := if s = 0 then wayAt f 1 else if s = 1 then wayAt f 2 else if s = 2 then timesW (wayAt f 1) (-1) else timesW (wayAt f 2) (-1)
def outR (f : List (List Int)) (s : Int) : List Int × Unit := r1 (outF f s)
def WOut (f : List (List Int)) (_ : Int) : Prop := Bd 4096 (wayAt f 1) ∧ Bd 4096 (wayAt f 2)
def frameL (f : Int) : List (List Int) := framesL.getD f.toNat [[0, 0, 0], [0, 0, 0], [0, 0, 0]]
def faceAtI (c : List Int) : Int := firstI (fun fr => decide (wayAt fr 0 = c)) 0 framesL
def faceAtR (c : List Int) : Int × Unit := r1 (faceAtI c)
def cellOk (n f i j : Int) : Bool := goodC n && decide (0 ≤ f) && decide (f < 6) && decide (0 ≤ i) && decide (i < n) && decide (0 ≤ j) && decide (j < n)
def cellI (n f i j : Int) : Int := if cellOk n f i j then (f * n + j) * n + i else -1
def cellR (n f i j : Int) : Int × Unit := r1 (cellI n f i j)
def middleI (n f i j : Int) : List Int := plusW (plusW (timesW (wayAt (frameL f) 0) n) (timesW (wayAt (frameL f) 1) (2 * i + 1 - n))) (timesW (wayAt (frameL f) 2) (2 * j + 1 - n))
def middleR' (n f i j : Int) : List Int × Unit := r1 (middleI n f i j)
def WMiddle (n f i j : Int) : Prop := 1 ≤ n ∧ n ≤ 32 ∧ 0 ≤ f ∧ f ≤ 5 ∧ 0 ≤ i ∧ i < n ∧ 0 ≤ j ∧ j < n
def indexI (n a : Int) : Int := imin (imax (Int.tdiv (a + n - 1) 2) 0) (n - 1)
def indexR (n a : Int) : Int × Unit := r1 (indexI n a)
def WIndex (n a : Int) : Prop := 1 ≤ n ∧ n ≤ 32 ∧ -1099511627776 ≤ a ∧ a ≤ 1099511627776
def dxI (o : Int) : Int := if o = 0 then 1 else if o = 2 then -1 else 0
def dyI (o : Int) : Int := if o = 1 then 1 else if o = 3 then -1 else 0
def backN (g : List (List Int)) (c : List Int) (q : Int) : Nat → Nat → Int × Int
  | 0, _ => (-1, 0)
  | f + 1, k => if outF g k = c then (q, (k : Int)) else backN g c q f (k + 1)
def backI (g : List (List Int)) (c : List Int) (q : Int) : Int × Int := backN g c q 4 0
def overI (n f i j o : Int) : Int × Int :=
  backI (frameL (faceAtI (outF (frameL f) o))) (wayAt (frameL f) 0)
    (cellI n (faceAtI (outF (frameL f) o)) (indexI n (dotW (plusW (middleI n f i j) (outF (frameL f) o)) (wayAt (frameL (faceAtI (outF (frameL f) o))) 1))) (indexI n (dotW (plusW (middleI n f i j) (outF (frameL f) o)) (wayAt (frameL (faceAtI (outF (frameL f) o))) 2))))
def besideOk (n c o : Int) : Bool := placeOk n c && decide (0 ≤ o) && decide (o < 4)
def besideI (n c o : Int) : Int × Int :=
  if besideOk n c o then
    (if 0 ≤ cellI n (c / (n * n)) (c % n + dxI o) (c / n % n + dyI o) then (cellI n (c / (n * n)) (c % n + dxI o) (c / n % n + dyI o), Int.tmod (o + 2) 4)
     else overI n (c / (n * n)) (c % n) (c / n % n) o)
  else (-1, 0)
def besideR (n c o : Int) : Int × Int × Unit := ((besideI n c o).1, (besideI n c o).2, ())
def III (a b c : Int) : Prop := I64 a ∧ I64 b ∧ I64 c
def middleQ (n c : Int) : Nat × Nat × Nat := pointQ (c / (n * n)) (ratioQ (2 * (c % n) + 1 - n) n) (ratioQ (2 * (c / n % n) + 1 - n) n)
def middleR (n c : Int) : (Nat × Nat × Nat) × Bool × Unit := if placeOk n c then (middleQ n c, true, ()) else ((0, 0, 0), false, ())
def cornA (n c : Int) (i : Int) : Nat × Nat × Nat := if i = 0 then cornerC n c 0 0 else if i = 1 then cornerC n c 1 0 else if i = 2 then cornerC n c 1 1 else cornerC n c 0 1
def endA (o : Int) : Int := if o = 0 then 1 else if o = 1 then 3 else 0
def endB (o : Int) : Int := if o = 0 then 2 else if o = 1 then 2 else if o = 2 then 3 else 1
def lengthG (n c o : Int) : Nat := if besideOk n c o then gapQ (cornA n c (endA o)) (cornA n c (endB o)) else 0
def lengthGR (n c o : Int) : Nat × Unit := r1 (lengthG n c o)
def gapG (n c o : Int) : Nat := if placeOk n c && placeOk n (besideI n c o).1 then gapQ (middleQ n c) (middleQ n (besideI n c o).1) else 0
def gapGR (n c o : Int) : Nat × Unit := r1 (gapG n c o)
def addE (n c o : Int) (s : List Ed × Nm) : List Ed × Nm :=
  if c > (besideI n c o).1 then s else (s.1 ++ [(c, o, (besideI n c o).1, (besideI n c o).2)], mput ((besideI n c o).1, (besideI n c o).2) s.1.length (mput (c, o) s.1.length s.2))
def addN (n c : Int) (s : List Ed × Nm) : Nat → List Ed × Nm
  | 0 => s
  | k + 1 => addE n c k (addN n c s k)
def netN (n : Int) : Nat → List Ed × Nm
  | 0 => ([], [])
  | k + 1 => addN n k (netN n k) 4
def netE (n : Int) : List Ed × Nm := netN n (cellsI n).toNat
def behindE (n : Int) (e : Ed) : List Int := [(besideI n e.1 (Int.tmod (e.2.1 + 2) 4)).1, (besideI n e.2.2.1 (Int.tmod (e.2.2.2 + 2) 4)).1]
def areasL (n : Int) : List Int := (List.range (cellsI n).toNat).map fun k : Nat => areaI n (k : Int)
def netG (n : Int) : Gr := (n, (netE n).1, (netE n).2, (netE n).1.map (behindE n), areasL n, (netE n).1.map (fun e => lengthG n e.1 e.2.1), (netE n).1.map (fun e => gapG n e.1 e.2.1))
def newR (n : Int) : Option Gr × Int × Unit := if cellsI n = 0 then (none, 10, ()) else (some (netG n), 0, ())
def nCells (g : Option Gr) : Int := match g with
  | none => 0
  | some g => (g.2.2.2.2.1.length : Nat)
def nCellsR (g : Option Gr) : Int × Unit := r1 (nCells g)
def nEdges (g : Option Gr) : Int := match g with
  | none => 0
  | some g => (g.2.1.length : Nat)
def nEdgesR (g : Option Gr) : Int × Unit := r1 (nEdges g)
def nArea (g : Option Gr) (c : Int) : Int := match g with
  | none => 0
  | some g => if 0 ≤ c ∧ c < (g.2.2.2.2.1.length : Nat) then g.2.2.2.2.1.getD c.toNat 0 else 0
def nAreaR (g : Option Gr) (c : Int) : Int × Unit := r1 (nArea g c)
end Go.Lift

set_option linter.unusedVariables false
namespace Go.Lift
def part (a b c : Int) : Int := if a < 0 then 0 else if b < 0 then 0 else if c < 1 then 0 else if a * b / c ≤ 9223372036854775807 then a * b / c else 9223372036854775807
theorem part_range (a b c : Int) : 0 ≤ part a b c ∧ part a b c ≤ 9223372036854775807 := by
  unfold part
  split
  · omega
  · split
    · omega
    · split
      · omega
      · split
        · rename_i h1 h2 h3 h4
          exact ⟨Int.ediv_nonneg (Int.mul_nonneg (by omega) (by omega)) (by omega), h4⟩
        · omega
def okTo (m : Int) (c : List Int) (i : Nat) : Prop := ∀ j, j < i → 0 ≤ c.getD j 0 ∧ psum c (j + 1) ≤ m
end Go.Lift

set_option linter.unusedVariables false
set_option linter.unusedSimpArgs false
namespace Go.Lift
def F18 := fun (a b : Int) (post : Int × Int × Unit → Prop) =>
  ∃ (h : (0 : Int) ≤ (32 : Int)),
    ∃ (h : (0 : Int) ≤ (32 : Int)),
      ∃ (h : (0 : Int) ≤ (32 : Int)),
        ∃ (h : (0 : Int) ≤ (32 : Int)),
          ∃ (h : (0 : Int) ≤ (32 : Int)),
            post
              (Go.IntKind.u64.wrap
                  (Go.IntKind.u64.wrap
                      (Go.IntKind.u64.wrap
                          (a.fdiv ((2 : Int) ^ Min.min (Int.toNat (32 : Int)) Go.IntKind.u64.bits) * b.fdiv ((2 : Int) ^ Min.min (Int.toNat (32 : Int)) Go.IntKind.u64.bits)) +
                        (Go.IntKind.u64.wrap
                              (Go.IntKind.u64.wrap
                                  (a.fdiv ((2 : Int) ^ Min.min (Int.toNat (32 : Int)) Go.IntKind.u64.bits) * Go.bits Go.BinOp.and Go.IntKind.u64 b (4294967295 : Int)) +
                                (Go.IntKind.u64.wrap (Go.bits Go.BinOp.and Go.IntKind.u64 a (4294967295 : Int) * Go.bits Go.BinOp.and Go.IntKind.u64 b (4294967295 : Int))).fdiv
                                  ((2 : Int) ^ Min.min (Int.toNat (32 : Int)) Go.IntKind.u64.bits))).fdiv
                          ((2 : Int) ^ Min.min (Int.toNat (32 : Int)) Go.IntKind.u64.bits)) +
                    (Go.IntKind.u64.wrap
                          (Go.bits Go.BinOp.and Go.IntKind.u64
                              (Go.IntKind.u64.wrap
                                (Go.IntKind.u64.wrap
                                    (a.fdiv ((2 : Int) ^ Min.min (Int.toNat (32 : Int)) Go.IntKind.u64.bits) * Go.bits Go.BinOp.and Go.IntKind.u64 b (4294967295 : Int)) +
                                  (Go.IntKind.u64.wrap (Go.bits Go.BinOp.and Go.IntKind.u64 a (4294967295 : Int) * Go.bits Go.BinOp.and Go.IntKind.u64 b (4294967295 : Int))).fdiv
                                    ((2 : Int) ^ Min.min (Int.toNat (32 : Int)) Go.IntKind.u64.bits)))
                              (4294967295 : Int) +
                            Go.IntKind.u64.wrap
                              (Go.bits Go.BinOp.and Go.IntKind.u64 a (4294967295 : Int) * b.fdiv ((2 : Int) ^ Min.min (Int.toNat (32 : Int)) Go.IntKind.u64.bits)))).fdiv
                      ((2 : Int) ^ Min.min (Int.toNat (32 : Int)) Go.IntKind.u64.bits)),
                Go.IntKind.u64.wrap (a * b), ())
theorem and_mask32 (b : Int) (h0 : 0 ≤ b) (h1 : b < 18446744073709551616) : Go.bits .and .u64 b 4294967295 = b % 4294967296 := by
  obtain ⟨n, rfl⟩ := Int.eq_ofNat_of_zero_le h0
  have := bits_and_u64_nat n 4294967295 (by omega) (by decide)
  rw [show ((4294967295 : Nat) : Int) = 4294967295 from rfl] at this
  rw [this]
  have h2 : n &&& 4294967295 = n % 4294967296 := Nat.and_two_pow_sub_one_eq_mod n 32
  rw [h2]; omega
theorem mul_bound {x y m n : Int} (hx0 : 0 ≤ x) (hx : x ≤ m) (hy0 : 0 ≤ y) (hy : y ≤ n) : 0 ≤ x * y ∧ x * y ≤ m * n :=
  ⟨Int.mul_nonneg hx0 hy0, Int.mul_le_mul hx hy hy0 (by omega)⟩
theorem mul64_eval {a b : Int} (ha0 : 0 ≤ a) (ha : a < 18446744073709551616) (hb0 : 0 ≤ b) (hb : b < 18446744073709551616) {post : Int × Int × Unit → Prop}
    (h : post (a * b / 18446744073709551616, a * b % 18446744073709551616, ())) : F18 a b post := by
  unfold F18
  refine ⟨by decide, by decide, by decide, by decide, by decide, ?_⟩
  have e32 : (2 : Int) ^ Min.min (Int.toNat (32 : Int)) Go.IntKind.u64.bits = 4294967296 := by decide
  have ef : ∀ x : Int, x.fdiv 4294967296 = x / 4294967296 := fun x => Int.fdiv_eq_ediv_of_nonneg _ (by decide)
  rw [and_mask32 a ha0 ha, and_mask32 b hb0 hb]
  simp only [e32, ef]
  generalize hx1 : a / 4294967296 = x1
  generalize hx0 : a % 4294967296 = x0
  generalize hy1 : b / 4294967296 = y1
  generalize hy0 : b % 4294967296 = y0
  have ea : a = x1 * 4294967296 + x0 := by omega
  have eb : b = y1 * 4294967296 + y0 := by omega
  have ab : a * b = x1 * y1 * 18446744073709551616 + (x1 * y0 + x0 * y1) * 4294967296 + x0 * y0 := by rw [ea, eb]; grind
  have p11 := mul_bound (x := x1) (y := y1) (m := 4294967295) (n := 4294967295) (by omega) (by omega) (by omega) (by omega)
  have p10 := mul_bound (x := x1) (y := y0) (m := 4294967295) (n := 4294967295) (by omega) (by omega) (by omega) (by omega)
  have p01 := mul_bound (x := x0) (y := y1) (m := 4294967295) (n := 4294967295) (by omega) (by omega) (by omega) (by omega)
  have p00 := mul_bound (x := x0) (y := y0) (m := 4294967295) (n := 4294967295) (by omega) (by omega) (by omega) (by omega)
  clear hx1 hx0 hy1 hy0 ea eb
  generalize x1 * y1 = q11 at *
  generalize x1 * y0 = q10 at *
  generalize x0 * y1 = q01 at *
  generalize x0 * y0 = q00 at *
  generalize a * b = ab at *
  rw [and_mask32 _ (by rw [IntKind.wrap_u64]; omega) (by rw [IntKind.wrap_u64]; omega)]
  simp only [IntKind.wrap_u64] at *
  have e : ∀ {u v : Int × Int × Unit}, u = v → post v → post u := fun e h => e ▸ h
  refine e ?_ h
  refine Prod.ext ?_ (Prod.ext ?_ rfl)
  · simp only; omega
  · rfl
def tab8 : ByteArray := {
                          data :=
                            (([(0 : UInt8), (1 : UInt8), (2 : UInt8), (2 : UInt8), (3 : UInt8), (3 : UInt8), (3 : UInt8), (3 : UInt8), (4 : UInt8), (4 : UInt8), (4 : UInt8),
                                        (4 : UInt8), (4 : UInt8), (4 : UInt8), (4 : UInt8), (4 : UInt8), (5 : UInt8), (5 : UInt8), (5 : UInt8), (5 : UInt8), (5 : UInt8),
                                        (5 : UInt8), (5 : UInt8), (5 : UInt8), (5 : UInt8), (5 : UInt8), (5 : UInt8), (5 : UInt8), (5 : UInt8), (5 : UInt8), (5 : UInt8),
                                        (5 : UInt8), (6 : UInt8), (6 : UInt8), (6 : UInt8), (6 : UInt8), (6 : UInt8), (6 : UInt8), (6 : UInt8), (6 : UInt8), (6 : UInt8),
                                        (6 : UInt8), (6 : UInt8), (6 : UInt8), (6 : UInt8), (6 : UInt8), (6 : UInt8), (6 : UInt8), (6 : UInt8), (6 : UInt8), (6 : UInt8),
                                        (6 : UInt8), (6 : UInt8), (6 : UInt8), (6 : UInt8), (6 : UInt8), (6 : UInt8), (6 : UInt8), (6 : UInt8), (6 : UInt8), (6 : UInt8),
                                        (6 : UInt8), (6 : UInt8), (6 : UInt8)].append
                                    [(7 : UInt8), (7 : UInt8), (7 : UInt8), (7 : UInt8), (7 : UInt8), (7 : UInt8), (7 : UInt8), (7 : UInt8), (7 : UInt8), (7 : UInt8), (7 : UInt8),
                                      (7 : UInt8), (7 : UInt8), (7 : UInt8), (7 : UInt8), (7 : UInt8), (7 : UInt8), (7 : UInt8), (7 : UInt8), (7 : UInt8), (7 : UInt8), (7 : UInt8),
                                      (7 : UInt8), (7 : UInt8), (7 : UInt8), (7 : UInt8), (7 : UInt8), (7 : UInt8), (7 : UInt8), (7 : UInt8), (7 : UInt8), (7 : UInt8), (7 : UInt8),
                                      (7 : UInt8), (7 : UInt8), (7 : UInt8), (7 : UInt8), (7 : UInt8), (7 : UInt8), (7 : UInt8), (7 : UInt8), (7 : UInt8), (7 : UInt8), (7 : UInt8),
                                      (7 : UInt8), (7 : UInt8), (7 : UInt8), (7 : UInt8), (7 : UInt8), (7 : UInt8), (7 : UInt8), (7 : UInt8), (7 : UInt8), (7 : UInt8), (7 : UInt8),
                                      (7 : UInt8), (7 : UInt8), (7 : UInt8), (7 : UInt8), (7 : UInt8), (7 : UInt8), (7 : UInt8), (7 : UInt8), (7 : UInt8)]).append
                                ([(8 : UInt8), (8 : UInt8), (8 : UInt8), (8 : UInt8), (8 : UInt8), (8 : UInt8), (8 : UInt8), (8 : UInt8), (8 : UInt8), (8 : UInt8), (8 : UInt8),
                                      (8 : UInt8), (8 : UInt8), (8 : UInt8), (8 : UInt8), (8 : UInt8), (8 : UInt8), (8 : UInt8), (8 : UInt8), (8 : UInt8), (8 : UInt8), (8 : UInt8),
                                      (8 : UInt8), (8 : UInt8), (8 : UInt8), (8 : UInt8), (8 : UInt8), (8 : UInt8), (8 : UInt8), (8 : UInt8), (8 : UInt8), (8 : UInt8), (8 : UInt8),
                                      (8 : UInt8), (8 : UInt8), (8 : UInt8), (8 : UInt8), (8 : UInt8), (8 : UInt8), (8 : UInt8), (8 : UInt8), (8 : UInt8), (8 : UInt8), (8 : UInt8),
                                      (8 : UInt8), (8 : UInt8), (8 : UInt8), (8 : UInt8), (8 : UInt8), (8 : UInt8), (8 : UInt8), (8 : UInt8), (8 : UInt8), (8 : UInt8), (8 : UInt8),
                                      (8 : UInt8), (8 : UInt8), (8 : UInt8), (8 : UInt8), (8 : UInt8), (8 : UInt8), (8 : UInt8), (8 : UInt8), (8 : UInt8)].append
                                  [(8 : UInt8), (8 : UInt8), (8 : UInt8), (8 : UInt8), (8 : UInt8), (8 : UInt8), (8 : UInt8), (8 : UInt8), (8 : UInt8), (8 : UInt8), (8 : UInt8),
                                    (8 : UInt8), (8 : UInt8), (8 : UInt8), (8 : UInt8), (8 : UInt8), (8 : UInt8), (8 : UInt8), (8 : UInt8), (8 : UInt8), (8 : UInt8), (8 : UInt8),
                                    (8 : UInt8), (8 : UInt8), (8 : UInt8), (8 : UInt8), (8 : UInt8), (8 : UInt8), (8 : UInt8), (8 : UInt8), (8 : UInt8), (8 : UInt8), (8 : UInt8),
                                    (8 : UInt8), (8 : UInt8), (8 : UInt8), (8 : UInt8), (8 : UInt8), (8 : UInt8), (8 : UInt8), (8 : UInt8), (8 : UInt8), (8 : UInt8), (8 : UInt8),
                                    (8 : UInt8), (8 : UInt8), (8 : UInt8), (8 : UInt8), (8 : UInt8), (8 : UInt8), (8 : UInt8), (8 : UInt8), (8 : UInt8), (8 : UInt8), (8 : UInt8),
                                    (8 : UInt8), (8 : UInt8), (8 : UInt8), (8 : UInt8), (8 : UInt8), (8 : UInt8), (8 : UInt8), (8 : UInt8), (8 : UInt8)])).toArray }
def F22 := fun (a : Int) (post : Int × Unit → Prop) =>
  Go.Lift.Br (Decidable.decide (a ≥ (4294967296 : Int)))
    (∃ (h : (0 : Int) ≤ (32 : Int)),
      Go.Lift.Br (Decidable.decide (a.fdiv ((2 : Int) ^ Min.min (Int.toNat (32 : Int)) Go.IntKind.u64.bits) ≥ (65536 : Int)))
        (∃ (h : (0 : Int) ≤ (16 : Int)),
          Go.Lift.Br
            (Decidable.decide
              ((a.fdiv ((2 : Int) ^ Min.min (Int.toNat (32 : Int)) Go.IntKind.u64.bits)).fdiv ((2 : Int) ^ Min.min (Int.toNat (16 : Int)) Go.IntKind.u64.bits) ≥ (256 : Int)))
            (∃ (h : (0 : Int) ≤ (8 : Int)),
              ∃ (h :
                (0 : Int) ≤
                    Go.IntKind.u8.wrap
                      (((a.fdiv ((2 : Int) ^ Min.min (Int.toNat (32 : Int)) Go.IntKind.u64.bits)).fdiv ((2 : Int) ^ Min.min (Int.toNat (16 : Int)) Go.IntKind.u64.bits)).fdiv
                        ((2 : Int) ^ Min.min (Int.toNat (8 : Int)) Go.IntKind.u64.bits)) ∧
                  Go.IntKind.u8.wrap
                      (((a.fdiv ((2 : Int) ^ Min.min (Int.toNat (32 : Int)) Go.IntKind.u64.bits)).fdiv ((2 : Int) ^ Min.min (Int.toNat (16 : Int)) Go.IntKind.u64.bits)).fdiv
                        ((2 : Int) ^ Min.min (Int.toNat (8 : Int)) Go.IntKind.u64.bits)) <
                    (tab8.size : Int)),
                post
                  (Go.IntKind.i64.wrap
                      (Go.IntKind.i64.wrap (Go.IntKind.i64.wrap ((32 : Int) + (16 : Int)) + (8 : Int)) +
                        Go.IntKind.i64.wrap
                          (Go.Lift.strAt
                            tab8
                            (Go.IntKind.u8.wrap
                              (((a.fdiv ((2 : Int) ^ Min.min (Int.toNat (32 : Int)) Go.IntKind.u64.bits)).fdiv
                                    ((2 : Int) ^ Min.min (Int.toNat (16 : Int)) Go.IntKind.u64.bits)).fdiv
                                ((2 : Int) ^ Min.min (Int.toNat (8 : Int)) Go.IntKind.u64.bits))))),
                    ()))
            (∃ (h :
              (0 : Int) ≤
                  Go.IntKind.u8.wrap
                    ((a.fdiv ((2 : Int) ^ Min.min (Int.toNat (32 : Int)) Go.IntKind.u64.bits)).fdiv ((2 : Int) ^ Min.min (Int.toNat (16 : Int)) Go.IntKind.u64.bits)) ∧
                Go.IntKind.u8.wrap
                    ((a.fdiv ((2 : Int) ^ Min.min (Int.toNat (32 : Int)) Go.IntKind.u64.bits)).fdiv ((2 : Int) ^ Min.min (Int.toNat (16 : Int)) Go.IntKind.u64.bits)) <
                  (tab8.size : Int)),
              post
                (Go.IntKind.i64.wrap
                    (Go.IntKind.i64.wrap ((32 : Int) + (16 : Int)) +
                      Go.IntKind.i64.wrap
                        (Go.Lift.strAt
                          tab8
                          (Go.IntKind.u8.wrap
                            ((a.fdiv ((2 : Int) ^ Min.min (Int.toNat (32 : Int)) Go.IntKind.u64.bits)).fdiv ((2 : Int) ^ Min.min (Int.toNat (16 : Int)) Go.IntKind.u64.bits))))),
                  ())))
        (Go.Lift.Br (Decidable.decide (a.fdiv ((2 : Int) ^ Min.min (Int.toNat (32 : Int)) Go.IntKind.u64.bits) ≥ (256 : Int)))
          (∃ (h : (0 : Int) ≤ (8 : Int)),
            ∃ (h :
              (0 : Int) ≤
                  Go.IntKind.u8.wrap
                    ((a.fdiv ((2 : Int) ^ Min.min (Int.toNat (32 : Int)) Go.IntKind.u64.bits)).fdiv ((2 : Int) ^ Min.min (Int.toNat (8 : Int)) Go.IntKind.u64.bits)) ∧
                Go.IntKind.u8.wrap
                    ((a.fdiv ((2 : Int) ^ Min.min (Int.toNat (32 : Int)) Go.IntKind.u64.bits)).fdiv ((2 : Int) ^ Min.min (Int.toNat (8 : Int)) Go.IntKind.u64.bits)) <
                  (tab8.size : Int)),
              post
                (Go.IntKind.i64.wrap
                    (Go.IntKind.i64.wrap ((32 : Int) + (8 : Int)) +
                      Go.IntKind.i64.wrap
                        (Go.Lift.strAt
                          tab8
                          (Go.IntKind.u8.wrap
                            ((a.fdiv ((2 : Int) ^ Min.min (Int.toNat (32 : Int)) Go.IntKind.u64.bits)).fdiv ((2 : Int) ^ Min.min (Int.toNat (8 : Int)) Go.IntKind.u64.bits))))),
                  ()))
          (∃ (h :
            (0 : Int) ≤ Go.IntKind.u8.wrap (a.fdiv ((2 : Int) ^ Min.min (Int.toNat (32 : Int)) Go.IntKind.u64.bits)) ∧
              Go.IntKind.u8.wrap (a.fdiv ((2 : Int) ^ Min.min (Int.toNat (32 : Int)) Go.IntKind.u64.bits)) <
                (tab8.size : Int)),
            post
              (Go.IntKind.i64.wrap
                  ((32 : Int) +
                    Go.IntKind.i64.wrap
                      (Go.Lift.strAt
                        tab8
                        (Go.IntKind.u8.wrap (a.fdiv ((2 : Int) ^ Min.min (Int.toNat (32 : Int)) Go.IntKind.u64.bits))))),
                ()))))
    (Go.Lift.Br (Decidable.decide (a ≥ (65536 : Int)))
      (∃ (h : (0 : Int) ≤ (16 : Int)),
        Go.Lift.Br (Decidable.decide (a.fdiv ((2 : Int) ^ Min.min (Int.toNat (16 : Int)) Go.IntKind.u64.bits) ≥ (256 : Int)))
          (∃ (h : (0 : Int) ≤ (8 : Int)),
            ∃ (h :
              (0 : Int) ≤
                  Go.IntKind.u8.wrap
                    ((a.fdiv ((2 : Int) ^ Min.min (Int.toNat (16 : Int)) Go.IntKind.u64.bits)).fdiv ((2 : Int) ^ Min.min (Int.toNat (8 : Int)) Go.IntKind.u64.bits)) ∧
                Go.IntKind.u8.wrap
                    ((a.fdiv ((2 : Int) ^ Min.min (Int.toNat (16 : Int)) Go.IntKind.u64.bits)).fdiv ((2 : Int) ^ Min.min (Int.toNat (8 : Int)) Go.IntKind.u64.bits)) <
                  (tab8.size : Int)),
              post
                (Go.IntKind.i64.wrap
                    (Go.IntKind.i64.wrap (Go.IntKind.i64.wrap ((0 : Int) + (16 : Int)) + (8 : Int)) +
                      Go.IntKind.i64.wrap
                        (Go.Lift.strAt
                          tab8
                          (Go.IntKind.u8.wrap
                            ((a.fdiv ((2 : Int) ^ Min.min (Int.toNat (16 : Int)) Go.IntKind.u64.bits)).fdiv ((2 : Int) ^ Min.min (Int.toNat (8 : Int)) Go.IntKind.u64.bits))))),
                  ()))
          (∃ (h :
            (0 : Int) ≤ Go.IntKind.u8.wrap (a.fdiv ((2 : Int) ^ Min.min (Int.toNat (16 : Int)) Go.IntKind.u64.bits)) ∧
              Go.IntKind.u8.wrap (a.fdiv ((2 : Int) ^ Min.min (Int.toNat (16 : Int)) Go.IntKind.u64.bits)) <
                (tab8.size : Int)),
            post
              (Go.IntKind.i64.wrap
                  (Go.IntKind.i64.wrap ((0 : Int) + (16 : Int)) +
                    Go.IntKind.i64.wrap
                      (Go.Lift.strAt
                        tab8
                        (Go.IntKind.u8.wrap (a.fdiv ((2 : Int) ^ Min.min (Int.toNat (16 : Int)) Go.IntKind.u64.bits))))),
                ())))
      (Go.Lift.Br (Decidable.decide (a ≥ (256 : Int)))
        (∃ (h : (0 : Int) ≤ (8 : Int)),
          ∃ (h :
            (0 : Int) ≤ Go.IntKind.u8.wrap (a.fdiv ((2 : Int) ^ Min.min (Int.toNat (8 : Int)) Go.IntKind.u64.bits)) ∧
              Go.IntKind.u8.wrap (a.fdiv ((2 : Int) ^ Min.min (Int.toNat (8 : Int)) Go.IntKind.u64.bits)) <
                (tab8.size : Int)),
            post
              (Go.IntKind.i64.wrap
                  (Go.IntKind.i64.wrap ((0 : Int) + (8 : Int)) +
                    Go.IntKind.i64.wrap
                      (Go.Lift.strAt
                        tab8
                        (Go.IntKind.u8.wrap (a.fdiv ((2 : Int) ^ Min.min (Int.toNat (8 : Int)) Go.IntKind.u64.bits))))),
                ()))
        (∃ (h :
          (0 : Int) ≤ Go.IntKind.u8.wrap a ∧
            Go.IntKind.u8.wrap a <
              (tab8.size : Int)),
          post
            (Go.IntKind.i64.wrap
                ((0 : Int) +
                  Go.IntKind.i64.wrap
                    (Go.Lift.strAt
                      tab8
                      (Go.IntKind.u8.wrap a))),
              ()))))
def len64 (x : Int) : Int := if x ≤ 0 then 0 else (x.toNat.log2 : Int) + 1
theorem len64_tab : ∀ n : Fin 256, strAt tab8 (n.1 : Int) = len64 n.1 := by decide +kernel
theorem len64_div {x : Int} (k : Nat) (h : (2 : Int) ^ k ≤ x) : len64 x = len64 (x / 2 ^ k) + k := by
  have h0 : (0 : Int) < 2 ^ k := Int.pow_pos (by decide)
  obtain ⟨n, rfl⟩ := Int.eq_ofNat_of_zero_le (show 0 ≤ x by omega)
  have hk : 2 ^ k ≤ n := by exact_mod_cast h
  have hpos : 0 < 2 ^ k := Nat.two_pow_pos k
  have hd : ((n : Int) / 2 ^ k) = ((n / 2 ^ k : Nat) : Int) := by norm_cast
  have hd0 : n / 2 ^ k ≠ 0 := by have := Nat.div_pos hk hpos; omega
  have hn0 : n ≠ 0 := by omega
  rw [hd]
  unfold len64
  have hd1 : 0 < ((n / 2 ^ k : Nat) : Int) := by exact_mod_cast Nat.div_pos hk hpos
  rw [if_neg (by omega), if_neg (Int.not_le.2 hd1)]
  simp only [Int.toNat_natCast]
  have : n.log2 = (n / 2 ^ k).log2 + k := by
    rw [Nat.log2_eq_iff hn0]
    have h1 := Nat.log2_self_le hd0
    have h2 := Nat.lt_log2_self (n := n / 2 ^ k)
    constructor
    · rw [Nat.pow_add]; exact Nat.le_trans (Nat.mul_le_mul_right _ h1) (Nat.div_mul_le_self n (2 ^ k))
    · rw [show (n / 2 ^ k).log2 + k + 1 = ((n / 2 ^ k).log2 + 1) + k by omega, Nat.pow_add]
      exact (Nat.div_lt_iff_lt_mul hpos).1 h2
  omega
theorem len64_bound {x : Int} (h : x < 18446744073709551616) : 0 ≤ len64 x ∧ len64 x ≤ 64 := by
  unfold len64
  split
  · omega
  · rename_i h0
    have : x.toNat.log2 < 64 := (Nat.log2_lt (by omega)).2 (by omega)
    omega
theorem tab_at (m : Int) (h0 : 0 ≤ m) (h1 : m < 256) : strAt tab8 m = len64 m := by
  have := len64_tab ⟨m.toNat, by omega⟩
  simp only at this
  rwa [show ((m.toNat : Nat) : Int) = m by omega] at this
theorem tab8_size : (tab8.size : Int) = 256 := by decide +kernel
theorem wrap_u8_id (m : Int) (h0 : 0 ≤ m) (h1 : m < 256) : IntKind.u8.wrap m = m := by simp [IntKind.wrap, IntKind.bits, IntKind.signed]; omega
theorem wrap_i64_id (m : Int) (h0 : 0 ≤ m) (h1 : m < 9223372036854775808) : IntKind.i64.wrap m = m := by simp [IntKind.wrap, IntKind.bits, IntKind.signed]; omega
theorem len64_leaf {m n a : Int} (hm0 : 0 ≤ m) (hm : m < 256) (hn0 : 0 ≤ n) (hn : n ≤ 56) (e : len64 a = len64 m + n) {post : Int × Unit → Prop} (h : post (len64 a, ())) :
    ∃ (_ : (0 : Int) ≤ Go.IntKind.u8.wrap m ∧ Go.IntKind.u8.wrap m < (tab8.size : Int)), post (Go.IntKind.i64.wrap (n + Go.IntKind.i64.wrap (Go.Lift.strAt tab8 (Go.IntKind.u8.wrap m))), ()) := by
  rw [wrap_u8_id m hm0 hm, tab_at m hm0 hm, tab8_size]
  have b := len64_bound (x := m) (by omega)
  rw [wrap_i64_id (len64 m) (by omega) (by omega), wrap_i64_id (n + len64 m) (by omega) (by omega), show n + len64 m = len64 a by omega]
  exact ⟨⟨hm0, hm⟩, h⟩
theorem len64_eval {a : Int} (ha0 : 0 ≤ a) (ha : a < 18446744073709551616) {post : Int × Unit → Prop} (h : post (len64 a, ())) : F22 a post := by
  have e32 : (2 : Int) ^ Min.min (Int.toNat (32 : Int)) Go.IntKind.u64.bits = 4294967296 := by decide
  have e16 : (2 : Int) ^ Min.min (Int.toNat (16 : Int)) Go.IntKind.u64.bits = 65536 := by decide
  have e8 : (2 : Int) ^ Min.min (Int.toNat (8 : Int)) Go.IntKind.u64.bits = 256 := by decide
  have f32 : ∀ x : Int, x.fdiv 4294967296 = x / 4294967296 := fun x => Int.fdiv_eq_ediv_of_nonneg _ (by decide)
  have f16 : ∀ x : Int, x.fdiv 65536 = x / 65536 := fun x => Int.fdiv_eq_ediv_of_nonneg _ (by decide)
  have f8 : ∀ x : Int, x.fdiv 256 = x / 256 := fun x => Int.fdiv_eq_ediv_of_nonneg _ (by decide)
  have l32 : ∀ x : Int, 4294967296 ≤ x → len64 x = len64 (x / 4294967296) + 32 := fun x hx => len64_div 32 (by omega)
  have l16 : ∀ x : Int, 65536 ≤ x → len64 x = len64 (x / 65536) + 16 := fun x hx => len64_div 16 (by omega)
  have l8 : ∀ x : Int, 256 ≤ x → len64 x = len64 (x / 256) + 8 := fun x hx => len64_div 8 (by omega)
  have w1 : Go.IntKind.i64.wrap ((32 : Int) + (16 : Int)) = 48 := by decide
  have w2 : Go.IntKind.i64.wrap ((48 : Int) + (8 : Int)) = 56 := by decide
  have w3 : Go.IntKind.i64.wrap ((32 : Int) + (8 : Int)) = 40 := by decide
  have w4 : Go.IntKind.i64.wrap ((0 : Int) + (16 : Int)) = 16 := by decide
  have w5 : Go.IntKind.i64.wrap ((16 : Int) + (8 : Int)) = 24 := by decide
  have w6 : Go.IntKind.i64.wrap ((0 : Int) + (8 : Int)) = 8 := by decide
  unfold F22
  simp only [e32, e16, e8, f32, f16, f8, w1, w2, w3, w4, w5, w6]
  refine Br.intro (fun c1 => ⟨by decide, Br.intro (fun c2 => ⟨by decide, Br.intro (fun c3 => ⟨by decide, ?_⟩) fun c3 => ?_⟩) fun c2 => Br.intro (fun c3 => ⟨by decide, ?_⟩) fun c3 => ?_⟩) fun c1 =>
    Br.intro (fun c2 => ⟨by decide, Br.intro (fun c3 => ⟨by decide, ?_⟩) fun c3 => ?_⟩) fun c2 => Br.intro (fun c3 => ⟨by decide, ?_⟩) fun c3 => ?_
  all_goals (simp only [decide_eq_true_eq, decide_eq_false_iff_not, ge_iff_le, Int.not_le] at c1 c2 c3)
  · exact len64_leaf (by omega) (by omega) (by omega) (by omega) (by rw [l32 a c1, l16 _ c2, l8 _ c3]; omega) h
  · exact len64_leaf (by omega) (by omega) (by omega) (by omega) (by rw [l32 a c1, l16 _ c2]; omega) h
  · exact len64_leaf (by omega) (by omega) (by omega) (by omega) (by rw [l32 a c1, l8 _ c3]; omega) h
  · exact len64_leaf (by omega) (by omega) (by omega) (by omega) (by rw [l32 a c1]) h
  · exact len64_leaf (by omega) (by omega) (by omega) (by omega) (by rw [l16 a c2, l8 _ c3]; omega) h
  · exact len64_leaf (by omega) (by omega) (by omega) (by omega) (by rw [l16 a c2]) h
  · exact len64_leaf (by omega) (by omega) (by omega) (by omega) (by rw [l8 a c3]) h
  · exact len64_leaf (by omega) (by omega) (by omega) (by omega) (by omega) h
def mulHi (a b : Int) : Int := a * b / 18446744073709551616
def mulLo (a b : Int) : Int := a * b % 18446744073709551616
def F21 := fun (a : Int) (post : Int × Unit → Prop) => ∃ (h : U64 a), post (Go.IntKind.i64.wrap ((64 : Int) - len64 a), ())
def lz64 (a : Int) : Int := 64 - len64 a
def hn19 : Hn := {
  loops := fun k => match k with
    | 17 => some { ls := [(.slot 15, .data (.int .u64)), (.slot 16, .data (.int .u64))], os := [] }
    | 24 => some { ls := [(.slot 18, .data (.int .u64)), (.slot 16, .data (.int .u64))], os := [] }
    | _ => none
  joins := fun k => match k with
    | 15 => some { ls := [(.slot 2, .data (.int .u64)), (.slot 8, .data (.int .u64)), (.slot 9, .data (.int .u64)), (.slot 10, .data (.int .u64)), (.slot 11, .data (.int .u64)), (.slot 13, .data (.int .u64)), (.slot 14, .data (.int .u64))], os := [] }
    | 21 => some { ls := [(.slot 15, .data (.int .u64))], os := [] }
    | 28 => some { ls := [(.slot 18, .data (.int .u64))], os := [] }
    | _ => none }
def F19 := fun (a b c : Int) (post : Int × Int × Unit → Prop) =>
  Go.Lift.Br (c == (0 : Int)) False
    (Go.Lift.Br (Decidable.decide (c ≤ a)) False
      (Go.Lift.Br (a == (0 : Int)) (∃ (h : c ≠ (0 : Int)), ∃ (h : c ≠ (0 : Int)), post (Go.IntKind.u64.wrap (b.tdiv c), b.tmod c, ()))
        (∃ (h : Go.Lift.U64 c),
          ∃ (h : (0 : Int) ≤ Go.IntKind.u64.wrap (Go.Lift.lz64 c)),
            ∃ (h : (0 : Int) ≤ (32 : Int)),
              ∃ (h : (0 : Int) ≤ Go.IntKind.u64.wrap (Go.Lift.lz64 c)),
                ∃ (h : (0 : Int) ≤ Go.IntKind.u64.wrap ((64 : Int) - Go.IntKind.u64.wrap (Go.Lift.lz64 c))),
                  ∃ (h : (0 : Int) ≤ Go.IntKind.u64.wrap (Go.Lift.lz64 c)),
                    ∃ (h : (0 : Int) ≤ (32 : Int)),
                      ∃ (post_1 : Int × Int × Int × Int × Int × Int × Int × Unit → Unit → Prop),
                        (Go.Lift.HIs [] [] ∧
                            post_1
                              (Go.IntKind.u64.wrap (c * (2 : Int) ^ Min.min (Go.IntKind.u64.wrap (Go.Lift.lz64 c)).toNat Go.IntKind.u64.bits), Go.IntKind.u64.wrap (Go.Lift.lz64 c),
                                (Go.IntKind.u64.wrap (c * (2 : Int) ^ Min.min (Go.IntKind.u64.wrap (Go.Lift.lz64 c)).toNat Go.IntKind.u64.bits)).fdiv
                                  ((2 : Int) ^ Min.min (Int.toNat (32 : Int)) Go.IntKind.u64.bits),
                                Go.bits Go.BinOp.and Go.IntKind.u64 (Go.IntKind.u64.wrap (c * (2 : Int) ^ Min.min (Go.IntKind.u64.wrap (Go.Lift.lz64 c)).toNat Go.IntKind.u64.bits))
                                  (4294967295 : Int),
                                Go.bits Go.BinOp.or Go.IntKind.u64 (Go.IntKind.u64.wrap (a * (2 : Int) ^ Min.min (Go.IntKind.u64.wrap (Go.Lift.lz64 c)).toNat Go.IntKind.u64.bits))
                                  (b.fdiv ((2 : Int) ^ Min.min (Go.IntKind.u64.wrap ((64 : Int) - Go.IntKind.u64.wrap (Go.Lift.lz64 c))).toNat Go.IntKind.u64.bits)),
                                (Go.IntKind.u64.wrap (b * (2 : Int) ^ Min.min (Go.IntKind.u64.wrap (Go.Lift.lz64 c)).toNat Go.IntKind.u64.bits)).fdiv
                                  ((2 : Int) ^ Min.min (Int.toNat (32 : Int)) Go.IntKind.u64.bits),
                                Go.bits Go.BinOp.and Go.IntKind.u64 (Go.IntKind.u64.wrap (b * (2 : Int) ^ Min.min (Go.IntKind.u64.wrap (Go.Lift.lz64 c)).toNat Go.IntKind.u64.bits))
                                  (4294967295 : Int),
                                ())
                              ()) ∧
                          ∀ (x : Int × Int × Int × Int × Int × Int × Int × Unit) (y : Unit),
                            post_1 x y →
                              ∃ (h : x.snd.snd.fst ≠ (0 : Int)),
                                ∃ (post_2 : Int × Unit → Unit → Prop),
                                  (Go.Lift.HIs [] [] ∧
                                      ∃ (I : Int × Int × Unit → Unit → Prop),
                                        ∃ (μ : Int × Int × Unit → Unit → Nat),
                                          I
                                              (Go.IntKind.u64.wrap (x.snd.snd.snd.snd.fst.tdiv x.snd.snd.fst),
                                                Go.IntKind.u64.wrap
                                                  (x.snd.snd.snd.snd.fst - Go.IntKind.u64.wrap (Go.IntKind.u64.wrap (x.snd.snd.snd.snd.fst.tdiv x.snd.snd.fst) * x.snd.snd.fst)),
                                                ())
                                              () ∧
                                            ∀ (x_2 : Int × Int × Unit) (y : Unit),
                                              I x_2 y →
                                                Go.Lift.Br (Decidable.decide (x_2.fst ≥ (4294967296 : Int)))
                                                  (Go.Lift.Br (Decidable.decide (Go.IntKind.u64.wrap (x_2.snd.fst + x.snd.snd.fst) ≥ (4294967296 : Int)))
                                                    (Go.Lift.HIs [] [] ∧ post_2 (Go.IntKind.u64.wrap (x_2.fst - (1 : Int)), ()) ())
                                                    (Go.Lift.HIs [] [] ∧
                                                      I (Go.IntKind.u64.wrap (x_2.fst - (1 : Int)), Go.IntKind.u64.wrap (x_2.snd.fst + x.snd.snd.fst), ()) () ∧
                                                        μ (Go.IntKind.u64.wrap (x_2.fst - (1 : Int)), Go.IntKind.u64.wrap (x_2.snd.fst + x.snd.snd.fst), ()) () < μ x_2 y))
                                                  (Go.Lift.Br
                                                    (Decidable.decide
                                                      (Go.IntKind.u64.wrap (x_2.fst * x.snd.snd.snd.fst) >
                                                        Go.IntKind.u64.wrap (Go.IntKind.u64.wrap ((4294967296 : Int) * x_2.snd.fst) + x.snd.snd.snd.snd.snd.fst)))
                                                    (Go.Lift.Br (Decidable.decide (Go.IntKind.u64.wrap (x_2.snd.fst + x.snd.snd.fst) ≥ (4294967296 : Int)))
                                                      (Go.Lift.HIs [] [] ∧ post_2 (Go.IntKind.u64.wrap (x_2.fst - (1 : Int)), ()) ())
                                                      (Go.Lift.HIs [] [] ∧
                                                        I (Go.IntKind.u64.wrap (x_2.fst - (1 : Int)), Go.IntKind.u64.wrap (x_2.snd.fst + x.snd.snd.fst), ()) () ∧
                                                          μ (Go.IntKind.u64.wrap (x_2.fst - (1 : Int)), Go.IntKind.u64.wrap (x_2.snd.fst + x.snd.snd.fst), ()) () < μ x_2 y))
                                                    (Go.Lift.HIs [] [] ∧ post_2 (x_2.fst, ()) ()))) ∧
                                    ∀ (x_2 : Int × Unit) (y : Unit),
                                      post_2 x_2 y →
                                        ∃ (h : x.snd.snd.fst ≠ (0 : Int)),
                                          ∃ (post_3 : Int × Unit → Unit → Prop),
                                            (Go.Lift.HIs [] [] ∧
                                                ∃ (I : Int × Int × Unit → Unit → Prop),
                                                  ∃ (μ : Int × Int × Unit → Unit → Nat),
                                                    I
                                                        (Go.IntKind.u64.wrap
                                                            ((Go.IntKind.u64.wrap
                                                                  (Go.IntKind.u64.wrap
                                                                      (Go.IntKind.u64.wrap (x.snd.snd.snd.snd.fst * (4294967296 : Int)) + x.snd.snd.snd.snd.snd.fst) -
                                                                    Go.IntKind.u64.wrap (x_2.fst * x.fst))).tdiv
                                                              x.snd.snd.fst),
                                                          Go.IntKind.u64.wrap
                                                            (Go.IntKind.u64.wrap
                                                                (Go.IntKind.u64.wrap
                                                                    (Go.IntKind.u64.wrap (x.snd.snd.snd.snd.fst * (4294967296 : Int)) + x.snd.snd.snd.snd.snd.fst) -
                                                                  Go.IntKind.u64.wrap (x_2.fst * x.fst)) -
                                                              Go.IntKind.u64.wrap
                                                                (Go.IntKind.u64.wrap
                                                                    ((Go.IntKind.u64.wrap
                                                                          (Go.IntKind.u64.wrap
                                                                              (Go.IntKind.u64.wrap (x.snd.snd.snd.snd.fst * (4294967296 : Int)) + x.snd.snd.snd.snd.snd.fst) -
                                                                            Go.IntKind.u64.wrap (x_2.fst * x.fst))).tdiv
                                                                      x.snd.snd.fst) *
                                                                  x.snd.snd.fst)),
                                                          ())
                                                        () ∧
                                                      ∀ (x_4 : Int × Int × Unit) (y : Unit),
                                                        I x_4 y →
                                                          Go.Lift.Br (Decidable.decide (x_4.fst ≥ (4294967296 : Int)))
                                                            (Go.Lift.Br (Decidable.decide (Go.IntKind.u64.wrap (x_4.snd.fst + x.snd.snd.fst) ≥ (4294967296 : Int)))
                                                              (Go.Lift.HIs [] [] ∧ post_3 (Go.IntKind.u64.wrap (x_4.fst - (1 : Int)), ()) ())
                                                              (Go.Lift.HIs [] [] ∧
                                                                I (Go.IntKind.u64.wrap (x_4.fst - (1 : Int)), Go.IntKind.u64.wrap (x_4.snd.fst + x.snd.snd.fst), ()) () ∧
                                                                  μ (Go.IntKind.u64.wrap (x_4.fst - (1 : Int)), Go.IntKind.u64.wrap (x_4.snd.fst + x.snd.snd.fst), ()) () <
                                                                    μ x_4 y))
                                                            (Go.Lift.Br
                                                              (Decidable.decide
                                                                (Go.IntKind.u64.wrap (x_4.fst * x.snd.snd.snd.fst) >
                                                                  Go.IntKind.u64.wrap (Go.IntKind.u64.wrap ((4294967296 : Int) * x_4.snd.fst) + x.snd.snd.snd.snd.snd.snd.fst)))
                                                              (Go.Lift.Br (Decidable.decide (Go.IntKind.u64.wrap (x_4.snd.fst + x.snd.snd.fst) ≥ (4294967296 : Int)))
                                                                (Go.Lift.HIs [] [] ∧ post_3 (Go.IntKind.u64.wrap (x_4.fst - (1 : Int)), ()) ())
                                                                (Go.Lift.HIs [] [] ∧
                                                                  I (Go.IntKind.u64.wrap (x_4.fst - (1 : Int)), Go.IntKind.u64.wrap (x_4.snd.fst + x.snd.snd.fst), ()) () ∧
                                                                    μ (Go.IntKind.u64.wrap (x_4.fst - (1 : Int)), Go.IntKind.u64.wrap (x_4.snd.fst + x.snd.snd.fst), ()) () <
                                                                      μ x_4 y))
                                                              (Go.Lift.HIs [] [] ∧ post_3 (x_4.fst, ()) ()))) ∧
                                              ∀ (x_4 : Int × Unit) (y : Unit),
                                                post_3 x_4 y →
                                                  ∃ (h : (0 : Int) ≤ x.snd.fst),
                                                    post
                                                      (Go.IntKind.u64.wrap (Go.IntKind.u64.wrap (x_2.fst * (4294967296 : Int)) + x_4.fst),
                                                        (Go.IntKind.u64.wrap
                                                              (Go.IntKind.u64.wrap
                                                                  (Go.IntKind.u64.wrap
                                                                      (Go.IntKind.u64.wrap
                                                                          (Go.IntKind.u64.wrap
                                                                              (Go.IntKind.u64.wrap (x.snd.snd.snd.snd.fst * (4294967296 : Int)) + x.snd.snd.snd.snd.snd.fst) -
                                                                            Go.IntKind.u64.wrap (x_2.fst * x.fst)) *
                                                                        (4294967296 : Int)) +
                                                                    x.snd.snd.snd.snd.snd.snd.fst) -
                                                                Go.IntKind.u64.wrap (x_4.fst * x.fst))).fdiv
                                                          ((2 : Int) ^ Min.min x.snd.fst.toNat Go.IntKind.u64.bits),
                                                        ()))))
structure DigIn (y1 y0 u v : Int) : Prop where
  y1l : 2147483648 ≤ y1
  y1h : y1 < 4294967296
  y0l : 0 ≤ y0
  y0h : y0 < 4294967296
  ul : 0 ≤ u
  uh : u < y1 * 4294967296 + y0
  vl : 0 ≤ v
  vh : v < 4294967296
structure DigInv (y1 y0 u v q r : Int) : Prop where
  r_eq : r = u - q * y1
  r0 : 0 ≤ r
  rW : r < 4294967296
  q0 : 0 ≤ q
  qh : q ≤ 4294967297
  up : u * 4294967296 + v < (q + 1) * (y1 * 4294967296 + y0)
structure DigFin (y1 y0 u v q : Int) : Prop where
  q0 : 0 ≤ q
  qW : q < 4294967296
  lo : q * (y1 * 4294967296 + y0) ≤ u * 4294967296 + v
  up : u * 4294967296 + v < (q + 1) * (y1 * 4294967296 + y0)
theorem mul_y (q y1 y0 : Int) : q * (y1 * 4294967296 + y0) = q * y1 * 4294967296 + q * y0 := by rw [Int.mul_add, Int.mul_assoc]
theorem mul_y1 (q y1 y0 : Int) : (q + 1) * (y1 * 4294967296 + y0) = q * y1 * 4294967296 + q * y0 + y1 * 4294967296 + y0 := by
  rw [Int.add_mul, mul_y, Int.one_mul]; omega
theorem dig_init {y1 y0 u v : Int} (h : DigIn y1 y0 u v) : DigInv y1 y0 u v (u / y1) (u - u / y1 * y1) := by
  have h1 := h.y1l
  have e := Int.mul_ediv_add_emod u y1
  have m0 := Int.emod_nonneg u (show y1 ≠ 0 by omega)
  have m1 := Int.emod_lt_of_pos u (show 0 < y1 by omega)
  have q0 : 0 ≤ u / y1 := Int.ediv_nonneg h.ul (by omega)
  have c : u / y1 * y1 = y1 * (u / y1) := Int.mul_comm _ _
  have y1h := h.y1h
  have uh := h.uh
  have y0h := h.y0h
  have y0l := h.y0l
  have vh := h.vh
  refine ⟨rfl, by omega, by omega, q0, ?_, ?_⟩
  · rcases Int.lt_or_le 4294967297 (u / y1) with hlt | hle
    · have : 4294967298 * y1 ≤ u / y1 * y1 := Int.mul_le_mul_of_nonneg_right (by omega) (by omega)
      omega
    · exact hle
  · rw [mul_y1]
    have : 0 ≤ u / y1 * y0 := Int.mul_nonneg q0 y0l
    omega
theorem dig_pos {y1 y0 u v q r : Int} (h : DigIn y1 y0 u v) (i : DigInv y1 y0 u v q r) (c : 4294967296 ≤ q ∨ q * y0 > 4294967296 * r + v) : 1 ≤ q := by
  have q0 := i.q0
  rcases c with c | c
  · omega
  · rcases Int.lt_or_le 0 q with hp | hp
    · omega
    · have : q = 0 := by omega
      subst this
      rw [Int.zero_mul] at c
      have := i.r0
      have := h.vl
      omega
theorem dig_up {y1 y0 u v q r : Int} (h : DigIn y1 y0 u v) (i : DigInv y1 y0 u v q r) (c : 4294967296 ≤ q ∨ q * y0 > 4294967296 * r + v) : u * 4294967296 + v < q * (y1 * 4294967296 + y0) := by
  rw [mul_y]
  have r_eq := i.r_eq
  have uh := h.uh
  have vh := h.vh
  rcases c with c | c
  · have p1 : 4294967296 * y1 ≤ q * y1 := Int.mul_le_mul_of_nonneg_right c (by have := h.y1l; omega)
    have p2 : 4294967296 * y0 ≤ q * y0 := Int.mul_le_mul_of_nonneg_right c h.y0l
    omega
  · omega
theorem dig_step {y1 y0 u v q r : Int} (h : DigIn y1 y0 u v) (i : DigInv y1 y0 u v q r) (c : 4294967296 ≤ q ∨ q * y0 > 4294967296 * r + v) (hr : r + y1 < 4294967296) : DigInv y1 y0 u v (q - 1) (r + y1) := by
  have h1 := dig_pos h i c
  have h2 := dig_up h i c
  have r_eq := i.r_eq
  have r0 := i.r0
  have y1l := h.y1l
  have qh := i.qh
  refine ⟨?_, by omega, hr, by omega, by omega, by rw [show q - 1 + 1 = q by omega]; exact h2⟩
  rw [Int.sub_mul, Int.one_mul]; omega
theorem dig_break {y1 y0 u v q r : Int} (h : DigIn y1 y0 u v) (i : DigInv y1 y0 u v q r) (c : 4294967296 ≤ q ∨ q * y0 > 4294967296 * r + v) (hr : 4294967296 ≤ r + y1) : DigFin y1 y0 u v (q - 1) := by
  have h1 := dig_pos h i c
  have h2 := dig_up h i c
  have r_eq := i.r_eq
  have qh := i.qh
  have y0l := h.y0l
  have y0h := h.y0h
  have y1l := h.y1l
  have uh := h.uh
  have vl := h.vl
  have vh := h.vh
  have s : (q - 1) * y0 ≤ 4294967296 * y0 := Int.mul_le_mul_of_nonneg_right (by omega) y0l
  have e1 : (q - 1) * y1 = q * y1 - y1 := by rw [Int.sub_mul, Int.one_mul]
  have lo : (q - 1) * (y1 * 4294967296 + y0) ≤ u * 4294967296 + v := by rw [mul_y, e1]; omega
  refine ⟨by omega, ?_, lo, by rw [show q - 1 + 1 = q by omega]; exact h2⟩
  rcases Int.lt_or_le (q - 1) 4294967296 with hl | hl
  · exact hl
  · have p1 : 4294967296 * y1 ≤ (q - 1) * y1 := Int.mul_le_mul_of_nonneg_right hl (by omega)
    have p2 : 4294967296 * y0 ≤ (q - 1) * y0 := Int.mul_le_mul_of_nonneg_right hl y0l
    rw [mul_y] at lo
    omega
theorem dig_exit {y1 y0 u v q r : Int} (h : DigIn y1 y0 u v) (i : DigInv y1 y0 u v q r) (c1 : q < 4294967296) (c2 : q * y0 ≤ 4294967296 * r + v) : DigFin y1 y0 u v q := by
  have r_eq := i.r_eq
  exact ⟨i.q0, c1, by rw [mul_y]; omega, i.up⟩
theorem w64 (n : Int) (h0 : 0 ≤ n) (h1 : n < 18446744073709551616) : Go.IntKind.u64.wrap n = n := by rw [IntKind.wrap_u64]; omega
theorem dig_loop {y1 y0 u v : Int} (h : DigIn y1 y0 u v) {P : Int × Unit → Unit → Prop} (hP : ∀ q, DigFin y1 y0 u v q → P (q, ()) ()) :
    HIs [] [] ∧ ∃ (I : Int × Int × Unit → Unit → Prop), ∃ (μ : Int × Int × Unit → Unit → Nat),
      I (Go.IntKind.u64.wrap (u.tdiv y1), Go.IntKind.u64.wrap (u - Go.IntKind.u64.wrap (Go.IntKind.u64.wrap (u.tdiv y1) * y1)), ()) () ∧
      ∀ (x : Int × Int × Unit) (y : Unit), I x y →
        Br (Decidable.decide (x.fst ≥ (4294967296 : Int)))
          (Br (Decidable.decide (Go.IntKind.u64.wrap (x.snd.fst + y1) ≥ (4294967296 : Int))) (HIs [] [] ∧ P (Go.IntKind.u64.wrap (x.fst - (1 : Int)), ()) ())
            (HIs [] [] ∧ I (Go.IntKind.u64.wrap (x.fst - (1 : Int)), Go.IntKind.u64.wrap (x.snd.fst + y1), ()) () ∧ μ (Go.IntKind.u64.wrap (x.fst - (1 : Int)), Go.IntKind.u64.wrap (x.snd.fst + y1), ()) () < μ x y))
          (Br (Decidable.decide (Go.IntKind.u64.wrap (x.fst * y0) > Go.IntKind.u64.wrap (Go.IntKind.u64.wrap ((4294967296 : Int) * x.snd.fst) + v)))
            (Br (Decidable.decide (Go.IntKind.u64.wrap (x.snd.fst + y1) ≥ (4294967296 : Int))) (HIs [] [] ∧ P (Go.IntKind.u64.wrap (x.fst - (1 : Int)), ()) ())
              (HIs [] [] ∧ I (Go.IntKind.u64.wrap (x.fst - (1 : Int)), Go.IntKind.u64.wrap (x.snd.fst + y1), ()) () ∧ μ (Go.IntKind.u64.wrap (x.fst - (1 : Int)), Go.IntKind.u64.wrap (x.snd.fst + y1), ()) () < μ x y))
            (HIs [] [] ∧ P (x.fst, ()) ())) := by
  have y1l := h.y1l
  have y1h := h.y1h
  have y0l := h.y0l
  have y0h := h.y0h
  have uh := h.uh
  have ul := h.ul
  have vl := h.vl
  have vh := h.vh
  refine ⟨rfl, fun x _ => DigInv y1 y0 u v x.1 x.2.1, fun x _ => x.1.toNat, ?_, ?_⟩
  · have e : u.tdiv y1 = u / y1 := Int.tdiv_eq_ediv_of_nonneg ul
    have i := dig_init h
    have q0 := i.q0
    have qh := i.qh
    have r0 := i.r0
    have rW := i.rW
    simp only [e]
    rw [w64 (u / y1) q0 (by omega), w64 (u / y1 * y1) (Int.mul_nonneg q0 (by omega)) (by omega), w64 _ (by omega) (by omega)]
    exact i
  · rintro ⟨q, r, ⟨⟩⟩ ⟨⟩ i
    simp only at i ⊢
    have q0 := i.q0
    have qh := i.qh
    have r0 := i.r0
    have rW := i.rW
    rw [w64 (r + y1) (by omega) (by omega), w64 (4294967296 * r) (by omega) (by omega), w64 (4294967296 * r + v) (by omega) (by omega)]
    have body : (4294967296 ≤ q ∨ q * y0 > 4294967296 * r + v) →
        Br (Decidable.decide (r + y1 ≥ (4294967296 : Int))) (HIs [] [] ∧ P (Go.IntKind.u64.wrap (q - (1 : Int)), ()) ())
          (HIs [] [] ∧ DigInv y1 y0 u v (Go.IntKind.u64.wrap (q - (1 : Int))) (r + y1) ∧ (Go.IntKind.u64.wrap (q - (1 : Int))).toNat < q.toNat) := by
      intro c
      have h1 := dig_pos h i c
      rw [w64 (q - 1) (by omega) (by omega)]
      refine Br.intro (fun b => ⟨rfl, hP _ (dig_break h i c ?_)⟩) fun b => ⟨rfl, dig_step h i c ?_, by omega⟩
      · simpa using b
      · simpa using b
    refine Br.intro (fun b => body (.inl (by simpa using b))) fun b => ?_
    have hq : q < 4294967296 := by simpa using b
    have hs : q * y0 ≤ 4294967295 * 4294967295 := Int.mul_le_mul (by omega) (by omega) y0l (by omega)
    rw [w64 (q * y0) (Int.mul_nonneg q0 y0l) (by omega)]
    refine Br.intro (fun b => body (.inr (by simpa using b))) fun b => ⟨rfl, hP q (dig_exit h i hq (by simpa using b))⟩
theorem or_addP {x y S : Int} (s : Nat) (hS : S = 2 ^ s) (hx0 : 0 ≤ x) (hx : x * S < 18446744073709551616) (hy0 : 0 ≤ y) (hy : y < S) (hm : y < 18446744073709551616) :
    Go.bits .or .u64 (x * S) y = x * S + y := by
  obtain ⟨n, rfl⟩ := Int.eq_ofNat_of_zero_le hx0
  obtain ⟨m, rfl⟩ := Int.eq_ofNat_of_zero_le hy0
  have hS' : S = ((2 ^ s : Nat) : Int) := by rw [hS, Int.natCast_pow]; rfl
  subst hS'
  have h1 : n * 2 ^ s < 18446744073709551616 := Int.ofNat_lt.1 (by rw [Int.natCast_mul]; exact hx)
  have h2 : m < 2 ^ s := Int.ofNat_lt.1 hy
  have h4 : n * 2 ^ s ||| m = n * 2 ^ s + m := by
    rw [Nat.mul_comm, Nat.two_pow_add_eq_or_of_lt h2]
  have := bits_or_u64_nat (n * 2 ^ s) m h1 (by omega)
  rw [h4, Int.natCast_mul, Int.natCast_add, Int.natCast_mul] at this
  exact this
theorem fin_div {M c S Q R Y : Int} (hS : 0 < S) (hY : Y = c * S) (hc : 0 < c) (h : M * S = Q * Y + R) (h0 : 0 ≤ R) (h1 : R < Y) : M / c = Q ∧ M % c = R / S := by
  have e : R = (M - Q * c) * S := by rw [Int.sub_mul, Int.mul_assoc, ← hY]; omega
  have e2 : R / S = M - Q * c := by rw [e]; exact Int.mul_ediv_cancel _ (by omega)
  have p0 : 0 ≤ M - Q * c := by
    rcases Int.lt_or_le (M - Q * c) 0 with hl | hl
    · have := Int.mul_neg_of_neg_of_pos hl hS; omega
    · exact hl
  have p1 : M - Q * c < c := by
    rcases Int.lt_or_le (M - Q * c) c with hl | hl
    · exact hl
    · have := Int.mul_le_mul_of_nonneg_right hl (show 0 ≤ S by omega); omega
  have hM : M = (M - Q * c) + c * Q := by rw [Int.mul_comm c Q]; omega
  constructor
  · rw [hM, Int.add_mul_ediv_left _ _ (by omega), Int.ediv_eq_zero_of_lt p0 p1, Int.zero_add]
  · rw [e2]
    conv => lhs; rw [hM]
    rw [Int.add_mul_emod_self_left, Int.emod_eq_of_lt p0 p1]
theorem div64_eval {a b c s : Int} (hg : lz64 c = s) (hc : U64 c) (hs0 : 0 ≤ s) (hs1 : s ≤ 63) (hn0 : 9223372036854775808 ≤ c * 2 ^ s.toNat) (hn1 : c * 2 ^ s.toNat < 18446744073709551616) (ha0 : 0 ≤ a) (hac : a < c) (hb0 : 0 ≤ b) (hb : b < 18446744073709551616)
    {post : Int × Int × Unit → Prop} (h : post ((a * 18446744073709551616 + b) / c, (a * 18446744073709551616 + b) % c, ())) : F19 a b c post := by
  unfold F19
  refine Br.intro (fun e => by simp at e; omega) fun _ => Br.intro (fun e => by simp at e; omega) fun _ => Br.intro (fun e => ?_) fun _ => ?_
  · have e : a = 0 := by simpa using e
    subst e
    refine ⟨by omega, by omega, ?_⟩
    have e1 : b.tdiv c = b / c := Int.tdiv_eq_ediv_of_nonneg hb0
    have e2 : b.tmod c = b % c := Int.tmod_eq_emod_of_nonneg hb0
    have p0 : 0 ≤ b / c := Int.ediv_nonneg hb0 (by omega)
    have p1 : b / c ≤ b := Int.ediv_le_self _ hb0
    rw [e1, e2, w64 _ p0 (by omega)]
    simpa using h
  · rw [hg]
    rw [w64 s hs0 (by omega), w64 (64 - s) (by omega) (by omega)]
    have e32 : (2 : Int) ^ Min.min (Int.toNat (32 : Int)) Go.IntKind.u64.bits = 4294967296 := by decide
    have es : Min.min s.toNat Go.IntKind.u64.bits = s.toNat := Nat.min_eq_left (by show s.toNat ≤ 64; omega)
    have et : Min.min (64 - s).toNat Go.IntKind.u64.bits = (64 - s).toNat := Nat.min_eq_left (by show (64 - s).toNat ≤ 64; omega)
    have hST : (2 : Int) ^ s.toNat * 2 ^ (64 - s).toNat = 18446744073709551616 := by
      rw [← Int.pow_add, show s.toNat + (64 - s).toNat = 64 by omega]; rfl
    have hS0 : (0 : Int) < 2 ^ s.toNat := Int.pow_pos (by decide)
    have hT0 : (0 : Int) < 2 ^ (64 - s).toNat := Int.pow_pos (by decide)
    have fS : ∀ x : Int, x.fdiv (2 ^ s.toNat) = x / 2 ^ s.toNat := fun x => Int.fdiv_eq_ediv_of_nonneg _ (by omega)
    have fT : ∀ x : Int, x.fdiv (2 ^ (64 - s).toNat) = x / 2 ^ (64 - s).toNat := fun x => Int.fdiv_eq_ediv_of_nonneg _ (by omega)
    have f32 : ∀ x : Int, x.fdiv 4294967296 = x / 4294967296 := fun x => Int.fdiv_eq_ediv_of_nonneg _ (by decide)
    simp only [e32, es, et, fS, fT, f32]
    generalize hS : (2 : Int) ^ s.toNat = S at *
    generalize hT : (2 : Int) ^ (64 - s).toNat = T at *
    generalize hY : c * S = Y at *
    have aS : a * S ≤ Y - S := by
      have : a * S ≤ (c - 1) * S := Int.mul_le_mul_of_nonneg_right (by omega) (by omega)
      rw [Int.sub_mul, Int.one_mul, hY] at this; exact this
    have aS0 : 0 ≤ a * S := Int.mul_nonneg ha0 (by omega)
    have bT0 : 0 ≤ b / T := Int.ediv_nonneg hb0 (by omega)
    have bTS : b / T < S := Int.ediv_lt_of_lt_mul hT0 (by rw [hST]; exact hb)
    have bm0 : 0 ≤ b % T := Int.emod_nonneg _ (by omega)
    have bm1 : b % T < T := Int.emod_lt_of_pos _ hT0
    have hV0 : 0 ≤ b % T * S := Int.mul_nonneg bm0 (by omega)
    have hV1 : b % T * S < 18446744073709551616 := by
      have : b % T * S ≤ (T - 1) * S := Int.mul_le_mul_of_nonneg_right (by omega) (by omega)
      rw [Int.sub_mul, Int.one_mul, Int.mul_comm T S, hST] at this; omega
    have hbS : b * S = b / T * 18446744073709551616 + b % T * S := by
      have e : b = b / T * T + b % T := by have := Int.mul_ediv_add_emod b T; rw [Int.mul_comm (b / T) T]; omega
      conv => lhs; rw [e]
      rw [Int.add_mul, Int.mul_assoc, Int.mul_comm T S, hST]
    have wbS : Go.IntKind.u64.wrap (b * S) = b % T * S := by rw [IntKind.wrap_u64, hbS]; omega
    have hU : Go.bits .or .u64 (a * S) (b / T) = a * S + b / T := or_addP s.toNat hS.symm ha0 (by omega) bT0 bTS (by omega)
    rw [w64 Y (by omega) hn1, w64 (a * S) aS0 (by omega), wbS, hU, and_mask32 Y (by omega) hn1, and_mask32 _ hV0 hV1]
    refine ⟨hc, hs0, by decide, hs0, by omega, hs0, by decide, fun x _ => x = (Y, s, Y / 4294967296, Y % 4294967296, a * S + b / T, b % T * S / 4294967296, b % T * S % 4294967296, ()), ⟨rfl, rfl⟩, ?_⟩
    rintro _ ⟨⟩ rfl
    simp only
    generalize hVV : b % T * S = V at *
    generalize hUU : a * S + b / T = U at *
    have d1 : DigIn (Y / 4294967296) (Y % 4294967296) U (V / 4294967296) := ⟨by omega, by omega, by omega, by omega, by omega, by omega, by omega, by omega⟩
    refine ⟨by omega, fun x _ => DigFin (Y / 4294967296) (Y % 4294967296) U (V / 4294967296) x.1, dig_loop (P := fun x _ => DigFin (Y / 4294967296) (Y % 4294967296) U (V / 4294967296) x.1) d1 fun q hq => hq, ?_⟩
    rintro ⟨q1, ⟨⟩⟩ ⟨⟩ hq1
    simp only at hq1 ⊢
    have eY : Y / 4294967296 * 4294967296 + Y % 4294967296 = Y := by omega
    have l1 := hq1.lo
    have u1 := hq1.up
    rw [eY] at l1 u1
    rw [Int.add_mul, Int.one_mul] at u1
    have q1Y0 : 0 ≤ q1 * Y := Int.mul_nonneg hq1.q0 (by omega)
    have eu : Go.IntKind.u64.wrap (Go.IntKind.u64.wrap (Go.IntKind.u64.wrap (U * 4294967296) + V / 4294967296) - Go.IntKind.u64.wrap (q1 * Y)) = U * 4294967296 + V / 4294967296 - q1 * Y := by
      simp only [IntKind.wrap_u64]; omega
    rw [eu]
    generalize hR1 : U * 4294967296 + V / 4294967296 - q1 * Y = R1 at *
    have d2 : DigIn (Y / 4294967296) (Y % 4294967296) R1 (V % 4294967296) := ⟨by omega, by omega, by omega, by omega, by omega, by omega, by omega, by omega⟩
    refine ⟨by omega, fun x _ => DigFin (Y / 4294967296) (Y % 4294967296) R1 (V % 4294967296) x.1, dig_loop (P := fun x _ => DigFin (Y / 4294967296) (Y % 4294967296) R1 (V % 4294967296) x.1) d2 fun q hq => hq, ?_⟩
    rintro ⟨q0, ⟨⟩⟩ ⟨⟩ hq0
    simp only at hq0 ⊢
    have l0 := hq0.lo
    have u0 := hq0.up
    rw [eY] at l0 u0
    rw [Int.add_mul, Int.one_mul] at u0
    have q0Y0 : 0 ≤ q0 * Y := Int.mul_nonneg hq0.q0 (by omega)
    have er : Go.IntKind.u64.wrap (Go.IntKind.u64.wrap (Go.IntKind.u64.wrap (R1 * 4294967296) + V % 4294967296) - Go.IntKind.u64.wrap (q0 * Y)) = R1 * 4294967296 + V % 4294967296 - q0 * Y := by
      simp only [IntKind.wrap_u64]; omega
    rw [er]
    have a1 := hq1.q0
    have a2 := hq1.qW
    have a3 := hq0.q0
    have a4 := hq0.qW
    rw [w64 (q1 * 4294967296) (by omega) (by omega), w64 _ (by omega) (by omega)]
    have key := fin_div (M := a * 18446744073709551616 + b) (c := c) (S := S) (Q := q1 * 4294967296 + q0) (R := R1 * 4294967296 + V % 4294967296 - q0 * Y) (Y := Y) hS0 hY.symm (by omega) (by
      have e1 : (a * 18446744073709551616 + b) * S = a * S * 18446744073709551616 + b * S := by rw [Int.add_mul, Int.mul_right_comm]
      have e2 : (q1 * 4294967296 + q0) * Y = q1 * Y * 4294967296 + q0 * Y := by rw [Int.add_mul, Int.mul_right_comm]
      rw [e1, e2, hbS]
      omega) (by omega) (by omega)
    rw [key.1, key.2] at h
    refine ⟨hs0, ?_⟩
    rw [es, hS, fS]
    exact h
theorem lz_norm {c : Int} (h0 : 0 < c) (h1 : c < 18446744073709551616) : 0 ≤ lz64 c ∧ lz64 c ≤ 63 ∧ 9223372036854775808 ≤ c * 2 ^ (lz64 c).toNat ∧ c * 2 ^ (lz64 c).toNat < 18446744073709551616 := by
  obtain ⟨n, rfl⟩ := Int.eq_ofNat_of_zero_le (show 0 ≤ c by omega)
  have hn : n ≠ 0 := by omega
  have hl : n.log2 < 64 := (Nat.log2_lt hn).2 (by omega)
  have e : lz64 (n : Int) = ((63 - n.log2 : Nat) : Int) := by
    unfold lz64 len64; rw [if_neg (by omega)]; simp only [Int.toNat_natCast]; omega
  rw [e, Int.toNat_natCast]
  have a1 := Nat.mul_le_mul_right (2 ^ (63 - n.log2)) (Nat.log2_self_le hn)
  have a2 := Nat.mul_lt_mul_of_pos_right (Nat.lt_log2_self (n := n)) (Nat.two_pow_pos (63 - n.log2))
  rw [← Nat.pow_add, show n.log2 + (63 - n.log2) = 63 by omega] at a1
  rw [← Nat.pow_add, show n.log2 + 1 + (63 - n.log2) = 64 by omega] at a2
  have hc : ((n : Int) * 2 ^ (63 - n.log2)) = ((n * 2 ^ (63 - n.log2) : Nat) : Int) := by rw [Int.natCast_mul, Int.natCast_pow]; rfl
  rw [hc]
  refine ⟨by omega, by omega, ?_, ?_⟩
  · exact Int.ofNat_le.2 a1
  · exact Int.ofNat_lt.2 a2
def divQ (a b c : Int) : Int := (a * 18446744073709551616 + b) / c
def divR (a b c : Int) : Int := (a * 18446744073709551616 + b) % c
def F12 := fun (a b c : Int) (post : Int × Unit → Prop) =>
  Go.Lift.Br (Decidable.decide (a < (0 : Int))) (post ((0 : Int), ()))
    (Go.Lift.Br (Decidable.decide (b < (0 : Int))) (post ((0 : Int), ()))
      (Go.Lift.Br (Decidable.decide (c < (1 : Int))) (post ((0 : Int), ()))
        (∃ (h : Go.Lift.U64 (Go.IntKind.u64.wrap a) ∧ Go.Lift.U64 (Go.IntKind.u64.wrap b)),
          Go.Lift.Br (Decidable.decide (Go.Lift.mulHi (Go.IntKind.u64.wrap a) (Go.IntKind.u64.wrap b) ≥ Go.IntKind.u64.wrap c)) (post ((9223372036854775807 : Int), ()))
            (∃ (h :
              Go.Lift.U64 (Go.Lift.mulHi (Go.IntKind.u64.wrap a) (Go.IntKind.u64.wrap b)) ∧
                Go.Lift.U64 (Go.Lift.mulLo (Go.IntKind.u64.wrap a) (Go.IntKind.u64.wrap b)) ∧
                  Go.Lift.U64 (Go.IntKind.u64.wrap c) ∧ Go.Lift.mulHi (Go.IntKind.u64.wrap a) (Go.IntKind.u64.wrap b) < Go.IntKind.u64.wrap c),
              post
                (Go.IntKind.i64.wrap
                    (Go.Lift.imin
                      (Go.Lift.divQ (Go.Lift.mulHi (Go.IntKind.u64.wrap a) (Go.IntKind.u64.wrap b)) (Go.Lift.mulLo (Go.IntKind.u64.wrap a) (Go.IntKind.u64.wrap b))
                        (Go.IntKind.u64.wrap c))
                      (9223372036854775807 : Int)),
                  ())))))
theorem mul_hi_lo (a b : Int) : mulHi a b * 18446744073709551616 + mulLo a b = a * b := by unfold mulHi mulLo; omega
theorem mulLo_u64 (a b : Int) : U64 (mulLo a b) := by unfold mulLo U64; omega
theorem mulHi_bound {a b : Int} (ha0 : 0 ≤ a) (ha : a < 9223372036854775808) (hb0 : 0 ≤ b) (hb : b < 9223372036854775808) : 0 ≤ mulHi a b ∧ mulHi a b < 4611686018427387904 := by
  have := mul_bound ha0 (show a ≤ 9223372036854775807 by omega) hb0 (show b ≤ 9223372036854775807 by omega)
  unfold mulHi; omega
theorem imin_eq (a b : Int) : imin a b = if a ≤ b then a else b := by unfold imin; split <;> (try split) <;> omega
theorem part_eval {a b c : Int} (ha : I64 a) (hb : I64 b) (hc : I64 c) {post : Int × Unit → Prop} (h : post (part a b c, ())) : F12 a b c post := by
  obtain ⟨a1, a2⟩ := ha
  obtain ⟨b1, b2⟩ := hb
  obtain ⟨c1, c2⟩ := hc
  unfold F12
  refine Br.intro (fun e => ?_) fun e => Br.intro (fun f => ?_) fun f => Br.intro (fun g => ?_) fun g => ?_
  all_goals simp only [decide_eq_true_eq, decide_eq_false_iff_not, Int.not_lt] at *
  · rw [show part a b c = 0 by unfold part; rw [if_pos e]] at h; exact h
  · rw [show part a b c = 0 by unfold part; rw [if_neg (by omega), if_pos f]] at h; exact h
  · rw [show part a b c = 0 by unfold part; rw [if_neg (by omega), if_neg (by omega), if_pos g]] at h; exact h
  · have hp : part a b c = if a * b / c ≤ 9223372036854775807 then a * b / c else 9223372036854775807 := by unfold part; rw [if_neg (by omega), if_neg (by omega), if_neg (by omega)]
    rw [w64 a e (by omega), w64 b f (by omega), w64 c (by omega) (by omega)]
    obtain ⟨m1, m2⟩ := mulHi_bound e a2 f b2
    have hl := mulLo_u64 a b
    have hhl := mul_hi_lo a b
    refine ⟨⟨⟨e, by omega⟩, f, by omega⟩, Br.intro (fun d => ?_) fun d => ⟨⟨⟨m1, by omega⟩, hl, ⟨by omega, by omega⟩, by simpa using d⟩, ?_⟩⟩
    · have d' : c ≤ mulHi a b := by simpa using d
      have : 18446744073709551616 ≤ a * b / c := by
        rw [Int.le_ediv_iff_mul_le (by omega)]
        have := hl.1
        omega
      rw [hp, if_neg (by omega)] at h; exact h
    · have e2 : divQ (mulHi a b) (mulLo a b) c = a * b / c := by unfold divQ; rw [hhl]
      have n0 : 0 ≤ a * b / c := Int.ediv_nonneg (Int.mul_nonneg e f) (by omega)
      rw [e2, imin_eq]
      rw [hp] at h
      split at h
      · rename_i q; rw [if_pos q, wrap_i64_id _ n0 (by omega)]; exact h
      · rename_i q; rw [if_neg q, wrap_i64_id _ (by omega) (by omega)]; exact h
end Go.Lift

set_option linter.unusedVariables false
set_option linter.unusedSimpArgs false
namespace Go.Lift
theorem mul_bd {a b m n : Int} (h1 : -m ≤ a) (h2 : a ≤ m) (h3 : -n ≤ b) (h4 : b ≤ n) : -(m * n) ≤ a * b ∧ a * b ≤ m * n := by
  have e : (a * b).natAbs ≤ m.natAbs * n.natAbs := by
    rw [Int.natAbs_mul]; exact Nat.mul_le_mul (by omega) (by omega)
  have hm : ((m.natAbs * n.natAbs : Nat) : Int) = m * n := by
    rw [Int.natCast_mul, Int.natAbs_of_nonneg (by omega), Int.natAbs_of_nonneg (by omega)]
  omega
theorem bd_mem {m : Int} {w : List Int} (h0 : 0 ≤ m) (h : ∀ x ∈ w, -m ≤ x ∧ x ≤ m) : Bd m w := by
  intro i
  rcases Nat.lt_or_ge i w.length with g | g
  · exact h _ (getD_mem g 0)
  · rw [List.getD_eq_getElem?_getD, List.getElem?_eq_none g]; exact ⟨by show -m ≤ 0; omega, h0⟩
theorem bd3 {m x y z : Int} (hx : -m ≤ x ∧ x ≤ m) (hy : -m ≤ y ∧ y ≤ m) (hz : -m ≤ z ∧ z ≤ m) : Bd m [x, y, z] := by
  refine bd_mem (by omega) fun a ha => ?_
  simp only [List.mem_cons, List.not_mem_nil, or_false] at ha
  rcases ha with rfl | rfl | rfl
  · exact hx
  · exact hy
  · exact hz
theorem Bd.mono {m m' : Int} {w : List Int} (h : Bd m w) (hm : m ≤ m') : Bd m' w := fun i => by have := h i; omega
theorem times_bd {m q k : Int} {w : List Int} (h : Bd m w) (k1 : -q ≤ k) (k2 : k ≤ q) : Bd (q * m) (timesW w k) :=
  bd3 (mul_bd k1 k2 (h 0).1 (h 0).2) (mul_bd k1 k2 (h 1).1 (h 1).2) (mul_bd k1 k2 (h 2).1 (h 2).2)
theorem plus_bd {a b : Int} {w v : List Int} (h : Bd a w) (k : Bd b v) : Bd (a + b) (plusW w v) := by
  have h0 := h 0; have h1 := h 1; have h2 := h 2; have k0 := k 0; have k1 := k 1; have k2 := k 2
  exact bd3 (by omega) (by omega) (by omega)
theorem dot_bd {a b : Int} {w v : List Int} (h : Bd a w) (k : Bd b v) : -(3 * (a * b)) ≤ dotW w v ∧ dotW w v ≤ 3 * (a * b) := by
  have e0 := mul_bd (h 0).1 (h 0).2 (k 0).1 (k 0).2
  have e1 := mul_bd (h 1).1 (h 1).2 (k 1).1 (k 1).2
  have e2 := mul_bd (h 2).1 (h 2).2 (k 2).1 (k 2).2
  unfold dotW
  omega
theorem face_cases {f : Int} (h0 : 0 ≤ f) (h5 : f ≤ 5) : f = 0 ∨ f = 1 ∨ f = 2 ∨ f = 3 ∨ f = 4 ∨ f = 5 := by omega
theorem side_cases {o : Int} (h0 : 0 ≤ o) (h4 : o < 4) : o = 0 ∨ o = 1 ∨ o = 2 ∨ o = 3 := by omega
theorem frame_bd {f : Int} (h0 : 0 ≤ f) (h5 : f ≤ 5) (i : Nat) : Bd 1 (wayAt (frameL f) i) := by
  refine bd_mem (by decide) ?_
  have d : ∀ x ∈ ([0, 0, 0] : List Int), -1 ≤ x ∧ x ≤ 1 := by decide
  rcases face_cases h0 h5 with rfl | rfl | rfl | rfl | rfl | rfl <;>
    (match i with
     | 0 => decide
     | 1 => decide
     | 2 => decide
     | i + 3 => exact d)
theorem frame_len {f : Int} (h0 : 0 ≤ f) (h5 : f ≤ 5) : (frameL f).length = 3 := by
  rcases face_cases h0 h5 with rfl | rfl | rfl | rfl | rfl | rfl <;> decide
theorem out_bd {f : Int} (h0 : 0 ≤ f) (h5 : f ≤ 5) (s : Int) : Bd 1 (outF (frameL f) s) := by
  unfold outF
  split
  · exact frame_bd h0 h5 1
  · split
    · exact frame_bd h0 h5 2
    · split
      · exact (times_bd (q := 1) (frame_bd h0 h5 1) (by omega) (by omega)).mono (by decide)
      · exact (times_bd (q := 1) (frame_bd h0 h5 2) (by omega) (by omega)).mono (by decide)
theorem face_at {f o : Int} (h0 : 0 ≤ f) (h5 : f ≤ 5) (o0 : 0 ≤ o) (o4 : o < 4) : 0 ≤ faceAtI (outF (frameL f) o) ∧ faceAtI (outF (frameL f) o) ≤ 5 := by
  rcases face_cases h0 h5 with rfl | rfl | rfl | rfl | rfl | rfl <;> rcases side_cases o0 o4 with rfl | rfl | rfl | rfl <;> decide
theorem middle_bd {n f i j : Int} (h : WMiddle n f i j) : Bd 96 (middleI n f i j) := by
  obtain ⟨n1, n2, f0, f5, i0, i1, j0, j1⟩ := h
  have a := times_bd (q := 32) (frame_bd f0 f5 0) (k := n) (by omega) (by omega)
  have b := times_bd (q := 32) (frame_bd f0 f5 1) (k := 2 * i + 1 - n) (by omega) (by omega)
  have c := times_bd (q := 32) (frame_bd f0 f5 2) (k := 2 * j + 1 - n) (by omega) (by omega)
  exact (plus_bd (plus_bd a b) c).mono (by decide)
theorem index_rng {n a : Int} (h1 : 1 ≤ n) : 0 ≤ indexI n a ∧ indexI n a ≤ n - 1 := by
  unfold indexI imin imax
  split <;> split <;> omega
theorem place_mid {n c : Int} (h : placeOk n c = true) : WMiddle n (c / (n * n)) (c % n) (c / n % n) := by
  obtain ⟨f1, f2, f3, f4, f5, f6⟩ := place_facts h
  obtain ⟨g1, g2, g3, g4, g5, g6⟩ := place_rng h
  exact ⟨f1, f2, g1, g2, g3, g4, g5, g6⟩
theorem place_eq {n c : Int} (h : placeOk n c = true) : placeR4 n c = (c / (n * n), c % n, c / n % n, true, ()) := by unfold placeR4; rw [if_pos h]
theorem place_no {n c : Int} (h : ¬ placeOk n c = true) : placeR4 n c = (0, 0, 0, false, ()) := by unfold placeR4; rw [if_neg h]
theorem corner_at {n c : Int} (h : placeOk n c = true) {i : Int} (i0 : 0 ≤ i) (i3 : i ≤ 3) (d : Nat × Nat × Nat) : (cornersR n c).1.getD i.toNat d = cornA n c i := by
  have hs : cornersR n c = ([cornerC n c 0 0, cornerC n c 1 0, cornerC n c 1 1, cornerC n c 0 1], true, ()) := by
    unfold cornersR; rw [if_pos h]; unfold cornerC; rw [Int.add_zero, Int.add_zero]
  rw [hs]
  have : i = 0 ∨ i = 1 ∨ i = 2 ∨ i = 3 := by omega
  rcases this with rfl | rfl | rfl | rfl <;> rfl
theorem cornA_w (n c i : Int) : WV (cornA n c i) := by
  unfold cornA
  (repeat' split) <;> exact cornerQ_w _ _ _ _
theorem middleQ_w (n c : Int) : WV (middleQ n c) := unitV_w _
theorem cell_rng {n f i j : Int} (h : cellOk n f i j = true) : 0 ≤ cellI n f i j ∧ cellI n f i j < 6 * (n * n) ∧ 1 ≤ n ∧ n ≤ 32 := by
  unfold cellOk at h
  simp only [Bool.and_eq_true, decide_eq_true_eq] at h
  obtain ⟨⟨⟨⟨⟨⟨hg, f0⟩, f6⟩, i0⟩, i1⟩, j0⟩, j1⟩ := h
  obtain ⟨n1, n2⟩ := goodC_iff.1 hg
  have hok : cellOk n f i j = true := by
    unfold cellOk; rw [hg, decide_eq_true f0, decide_eq_true f6, decide_eq_true i0, decide_eq_true i1, decide_eq_true j0, decide_eq_true j1]; rfl
  unfold cellI
  rw [if_pos hok]
  have a1 : (f * n + j) * n = f * (n * n) + j * n := by rw [Int.add_mul, Int.mul_assoc]
  have a2 : f * (n * n) ≤ 5 * (n * n) := Int.mul_le_mul_of_nonneg_right (by omega) (Int.mul_nonneg (by omega) (by omega))
  have a3 : j * n ≤ (n - 1) * n := Int.mul_le_mul_of_nonneg_right (by omega) (by omega)
  have a4 : 0 ≤ f * (n * n) := Int.mul_nonneg f0 (Int.mul_nonneg (by omega) (by omega))
  have a5 : 0 ≤ j * n := Int.mul_nonneg j0 (by omega)
  have a6 : (n - 1) * n = n * n - n := by rw [Int.sub_mul, Int.one_mul]
  omega
theorem cell_all (n f i j : Int) : -1 ≤ cellI n f i j ∧ cellI n f i j < 6144 := by
  by_cases h : cellOk n f i j = true
  · obtain ⟨a, b, c, d⟩ := cell_rng h
    have := sq_bd c d
    omega
  · unfold cellI; rw [if_neg h]; omega
theorem beside_rng (n c o : Int) : -1 ≤ (besideI n c o).1 ∧ (besideI n c o).1 < 6144 ∧ 0 ≤ (besideI n c o).2 ∧ (besideI n c o).2 ≤ 3 := by
  have ht : besideOk n c o = true → 0 ≤ Int.tmod (o + 2) 4 ∧ Int.tmod (o + 2) 4 ≤ 3 := by
    intro h
    unfold besideOk at h
    simp only [Bool.and_eq_true, decide_eq_true_eq] at h
    rw [Int.tmod_eq_emod_of_nonneg (by omega)]; omega
  have hb : ∀ (g : List (List Int)) (w : List Int) (q : Int) (f k : Nat), k + f ≤ 4 → -1 ≤ q → q < 6144 → -1 ≤ (backN g w q f k).1 ∧ (backN g w q f k).1 < 6144 ∧ 0 ≤ (backN g w q f k).2 ∧ (backN g w q f k).2 ≤ 3 := by
    intro g w q f
    induction f with
    | zero => intro k _ h1 h2; exact ⟨by show (-1 : Int) ≤ -1; omega, by show (-1 : Int) < 6144; omega, by show (0 : Int) ≤ 0; omega, by show (0 : Int) ≤ 3; omega⟩
    | succ f ih =>
      intro k hk h1 h2
      unfold backN
      split
      · exact ⟨h1, h2, by dsimp only; omega, by dsimp only; omega⟩
      · exact ih (k + 1) (by omega) h1 h2
  unfold besideI
  split
  · rename_i h
    split
    · have := cell_all n (c / (n * n)) (c % n + dxI o) (c / n % n + dyI o)
      have := ht h
      exact ⟨by dsimp only; omega, by dsimp only; omega, by dsimp only; omega, by dsimp only; omega⟩
    · unfold overI
      have := cell_all n (faceAtI (outF (frameL (c / (n * n))) o)) (indexI n (dotW (plusW (middleI n (c / (n * n)) (c % n) (c / n % n)) (outF (frameL (c / (n * n))) o)) (wayAt (frameL (faceAtI (outF (frameL (c / (n * n))) o))) 1))) (indexI n (dotW (plusW (middleI n (c / (n * n)) (c % n) (c / n % n)) (outF (frameL (c / (n * n))) o)) (wayAt (frameL (faceAtI (outF (frameL (c / (n * n))) o))) 2)))
      exact hb _ _ _ 4 0 (by omega) this.1 this.2
  · exact ⟨by dsimp only; omega, by dsimp only; omega, by dsimp only; omega, by dsimp only; omega⟩
def EdOk (e : Ed) : Prop := 0 ≤ e.1 ∧ e.1 < 6144 ∧ 0 ≤ e.2.1 ∧ e.2.1 ≤ 3 ∧ 0 ≤ e.2.2.1 ∧ e.2.2.1 < 6144 ∧ 0 ≤ e.2.2.2 ∧ e.2.2.2 ≤ 3
theorem addE_ok {n c o : Int} {s : List Ed × Nm} (c0 : 0 ≤ c) (c1 : c < 6144) (o0 : 0 ≤ o) (o3 : o ≤ 3) (h : ∀ e ∈ s.1, EdOk e) : (∀ e ∈ (addE n c o s).1, EdOk e) ∧ (addE n c o s).1.length ≤ s.1.length + 1 := by
  unfold addE
  split
  · exact ⟨h, by omega⟩
  · rename_i q
    have b := beside_rng n c o
    refine ⟨fun e he => ?_, by rw [List.length_append]; exact Nat.le_refl _⟩
    rcases List.mem_append.1 he with he | he
    · exact h e he
    · obtain rfl := List.mem_singleton.1 he
      exact ⟨c0, c1, o0, o3, by dsimp only; omega, by dsimp only; omega, by dsimp only; omega, by dsimp only; omega⟩
theorem addN_ok {n c : Int} {s : List Ed × Nm} (c0 : 0 ≤ c) (c1 : c < 6144) (h : ∀ e ∈ s.1, EdOk e) : ∀ k, k ≤ 4 → (∀ e ∈ (addN n c s k).1, EdOk e) ∧ (addN n c s k).1.length ≤ s.1.length + k
  | 0, _ => ⟨h, Nat.le_refl _⟩
  | k + 1, hk => by
    obtain ⟨a, b⟩ := addN_ok c0 c1 h k (by omega)
    obtain ⟨d, e⟩ := addE_ok (n := n) (o := k) c0 c1 (by omega) (by omega) a
    exact ⟨d, by show (addE n c k (addN n c s k)).1.length ≤ _; omega⟩
theorem netN_ok (n : Int) : ∀ k, k ≤ 6144 → (∀ e ∈ (netN n k).1, EdOk e) ∧ (netN n k).1.length ≤ 4 * k
  | 0, _ => ⟨fun e he => (by cases he), Nat.le_refl _⟩
  | k + 1, hk => by
    obtain ⟨a, b⟩ := netN_ok n k (by omega)
    obtain ⟨d, e⟩ := addN_ok (n := n) (c := k) (by omega) (by omega) a 4 (Nat.le_refl _)
    exact ⟨d, by show (addN n k (netN n k) 4).1.length ≤ _; omega⟩
theorem i64_wrap (x : Int) : I64 (IntKind.i64.wrap x) := by
  have h : IntKind.i64.wrap x = if 9223372036854775808 ≤ x % 18446744073709551616 then x % 18446744073709551616 - 18446744073709551616 else x % 18446744073709551616 := by
    simp [IntKind.wrap, IntKind.bits, IntKind.signed]
  rw [h]; unfold I64; split <;> omega
theorem dx_get {o : Int} (o0 : 0 ≤ o) (o4 : o < 4) : List.getD ([[(1 : Int), 0], [0, 1], [-1, 0], [0, -1]].getD o.toNat [0, 0]) 0 0 = dxI o := by
  rcases side_cases o0 o4 with rfl | rfl | rfl | rfl <;> rfl
theorem dy_get {o : Int} (o0 : 0 ≤ o) (o4 : o < 4) : List.getD ([[(1 : Int), 0], [0, 1], [-1, 0], [0, -1]].getD o.toNat [0, 0]) 1 0 = dyI o := by
  rcases side_cases o0 o4 with rfl | rfl | rfl | rfl <;> rfl
theorem dxy {o : Int} : -1 ≤ dxI o ∧ dxI o ≤ 1 ∧ -1 ≤ dyI o ∧ dyI o ≤ 1 := by
  unfold dxI dyI; (repeat' split) <;> omega
end Go.Lift

set_option linter.unusedVariables false
set_option linter.unusedSimpArgs false
namespace Go.Lift
abbrev Pt := Int × Int × Int
def plusP (a : Pt) (k : Int) (b : Pt) : Pt := (a.1 + k * b.1, a.2.1 + k * b.2.1, a.2.2 + k * b.2.2)
def dotP (a b : Pt) : Int := a.1 * b.1 + a.2.1 * b.2.1 + a.2.2 * b.2.2
def frameP (f : Int) : Pt × Pt × Pt :=
  if f = 0 then ((1, 0, 0), (0, 1, 0), (0, 0, 1)) else if f = 1 then ((0, 1, 0), (-1, 0, 0), (0, 0, 1)) else if f = 2 then ((-1, 0, 0), (0, -1, 0), (0, 0, 1))
  else if f = 3 then ((0, -1, 0), (1, 0, 0), (0, 0, 1)) else if f = 4 then ((0, 0, 1), (0, 1, 0), (-1, 0, 0)) else ((0, 0, -1), (0, 1, 0), (1, 0, 0))
def midP (n f i j : Int) : Pt := plusP (plusP (plusP (0, 0, 0) n (frameP f).1) (2 * i + 1 - n) (frameP f).2.1) (2 * j + 1 - n) (frameP f).2.2
def dirP (f o : Int) : Pt := if o = 0 then (frameP f).2.1 else if o = 1 then (frameP f).2.2 else if o = 2 then plusP (0, 0, 0) (-1) (frameP f).2.1 else plusP (0, 0, 0) (-1) (frameP f).2.2
def edgeTab : List (List (Int × Int × Bool)) :=
  [[(1, 2, false), (4, 3, false), (3, 0, false), (5, 1, false)], [(2, 2, false), (4, 0, false), (0, 0, false), (5, 0, true)], [(3, 2, false), (4, 1, true), (1, 0, false), (5, 3, true)],
   [(0, 2, false), (4, 2, true), (2, 0, false), (5, 2, false)], [(1, 1, false), (2, 1, true), (3, 1, true), (0, 1, false)], [(1, 3, true), (0, 3, false), (3, 3, false), (2, 3, true)]]
def edgeAt (f o : Int) : Int × Int × Bool := (edgeTab.getD f.toNat []).getD o.toNat (0, 0, false)
def atO (n o k : Int) : Int × Int := if o = 0 then (n - 1, k) else if o = 1 then (k, n - 1) else if o = 2 then (0, k) else (k, 0)
def alongO (o i j : Int) : Int := if o = 0 then j else if o = 1 then i else if o = 2 then j else i
def rim (n i j o : Int) : Prop := if o = 0 then i = n - 1 else if o = 1 then j = n - 1 else if o = 2 then i = 0 else j = 0
instance (n i j o : Int) : Decidable (rim n i j o) := by unfold rim; infer_instance
def flipK (n : Int) (b : Bool) (k : Int) : Int := if b then n - 1 - k else k
def nb (n f i j o : Int) : (Int × Int × Int) × Int :=
  if rim n i j o then (((edgeAt f o).1, atO n (edgeAt f o).2.1 (flipK n (edgeAt f o).2.2 (alongO o i j))), (edgeAt f o).2.1)
  else ((f, i + dxI o, j + dyI o), (o + 2) % 4)
def cellT (n : Int) (p : Int × Int × Int) : Int := cellI n p.1 p.2.1 p.2.2
def nbC (n f i j o : Int) : Int × Int := (cellT n (nb n f i j o).1, (nb n f i j o).2)
theorem cellOk_mid {n f i j : Int} (hm : WMiddle n f i j) : cellOk n f i j = true := by
  obtain ⟨n1, n2, f0, f5, i0, i1, j0, j1⟩ := hm
  unfold cellOk
  rw [show goodC n = true from goodC_iff.2 ⟨n1, n2⟩, decide_eq_true (p := 0 ≤ f) f0, decide_eq_true (p := f < 6) (by omega), decide_eq_true i0, decide_eq_true i1, decide_eq_true j0, decide_eq_true j1]; rfl
theorem mid_cellOk {n f i j : Int} (h : cellOk n f i j = true) : WMiddle n f i j := by
  unfold cellOk at h
  simp only [Bool.and_eq_true, decide_eq_true_eq] at h
  obtain ⟨⟨⟨⟨⟨⟨hg, f0⟩, f6⟩, i0⟩, i1⟩, j0⟩, j1⟩ := h
  obtain ⟨n1, n2⟩ := goodC_iff.1 hg
  exact ⟨n1, n2, f0, by omega, i0, i1, j0, j1⟩
theorem cell_val {n f i j : Int} (hm : WMiddle n f i j) : cellI n f i j = (f * n + j) * n + i := by unfold cellI; rw [if_pos (cellOk_mid hm)]
theorem cell_bad {n f i j : Int} (h : ¬ WMiddle n f i j) : cellI n f i j = -1 := by unfold cellI; rw [if_neg fun e => h (mid_cellOk e)]
theorem cell_parts {n f i j : Int} (hm : WMiddle n f i j) : cellI n f i j / (n * n) = f ∧ cellI n f i j % n = i ∧ cellI n f i j / n % n = j := by
  rw [cell_val hm]
  obtain ⟨n1, n2, f0, f5, i0, i1, j0, j1⟩ := hm
  have e1 : ((f * n + j) * n + i) % n = i := by rw [Int.add_comm, Int.add_mul_emod_self_right]; exact Int.emod_eq_of_lt i0 i1
  have e2 : ((f * n + j) * n + i) / n = f * n + j := by rw [Int.add_comm, Int.add_mul_ediv_right _ _ (by omega), Int.ediv_eq_zero_of_lt i0 i1]; omega
  have e3 : (f * n + j) % n = j := by rw [Int.add_comm, Int.add_mul_emod_self_right]; exact Int.emod_eq_of_lt j0 j1
  have e4 : (f * n + j) / n = f := by rw [Int.add_comm, Int.add_mul_ediv_right _ _ (by omega), Int.ediv_eq_zero_of_lt j0 j1]; omega
  refine ⟨?_, e1, by rw [e2, e3]⟩
  rw [← Int.ediv_ediv_of_nonneg (by omega : (0 : Int) ≤ n), e2, e4]
theorem cell_inj {n f i j f' i' j' : Int} (hm : WMiddle n f i j) (hm' : WMiddle n f' i' j') (h : cellI n f i j = cellI n f' i' j') : f = f' ∧ i = i' ∧ j = j' := by
  obtain ⟨a, b, c⟩ := cell_parts hm
  obtain ⟨a', b', c'⟩ := cell_parts hm'
  rw [h] at a b c
  exact ⟨by omega, by omega, by omega⟩
theorem place_cell {n c : Int} (h : placeOk n c = true) : cellI n (c / (n * n)) (c % n) (c / n % n) = c := by
  have hm := place_mid h
  rw [cell_val hm]
  obtain ⟨n1, n2, f0, f5, i0, i1, j0, j1⟩ := hm
  have e : c / (n * n) = c / n / n := (Int.ediv_ediv_of_nonneg (by omega : (0 : Int) ≤ n)).symm
  rw [e]
  have a := Int.mul_ediv_add_emod c n
  have b := Int.mul_ediv_add_emod (c / n) n
  have b' : c / n / n * n + c / n % n = c / n := by rw [Int.mul_comm]; exact b
  have a' : c / n * n + c % n = c := by rw [Int.mul_comm]; exact a
  rw [b', a']
theorem cell_place {n f i j : Int} (hm : WMiddle n f i j) : placeOk n (cellI n f i j) = true := by
  obtain ⟨r0, r1, n1, n2⟩ := cell_rng (cellOk_mid hm)
  unfold placeOk
  simp only [Bool.and_eq_true, decide_eq_true_eq]
  have : cellsI n = 6 * (n * n) := by unfold cellsI; rw [if_pos (goodC_iff.2 ⟨n1, n2⟩)]; rw [Int.mul_assoc]
  omega
def aS (a s : Int) : Int := if s = 3 then a else if s = 2 then a + 1 else if s = 1 then a else a - 1
theorem dot_plus (e b c : Pt) (k : Int) : dotP (plusP e k b) c = dotP e c + k * dotP b c := by
  unfold dotP plusP
  simp only [Int.add_mul, Int.mul_add, Int.mul_assoc]
  omega
section
variable {n c f : Int} {e : Pt} {a b q p : Int} (hm : WMiddle n f q p) (hc : dotP e (frameP f).1 = n) (ha : dotP e (frameP f).2.1 = a) (hb : dotP e (frameP f).2.2 = b)
include hm hc ha hb
end
def alP (f o : Int) : Pt := if o = 0 then (frameP f).2.2 else if o = 1 then (frameP f).2.1 else if o = 2 then (frameP f).2.2 else (frameP f).2.1
def crP (t s : Int) : Pt := if s = 0 then (frameP t).2.1 else if s = 1 then (frameP t).2.2 else if s = 2 then (frameP t).2.1 else (frameP t).2.2
def sg (s : Int) : Int := if s = 0 then 1 else if s = 1 then 1 else -1
def fsg (b : Bool) : Int := if b then -1 else 1
theorem edge_dots {f o : Int} (f0 : 0 ≤ f) (f5 : f ≤ 5) (o0 : 0 ≤ o) (o4 : o < 4) :
    0 ≤ (edgeAt f o).1 ∧ (edgeAt f o).1 ≤ 5 ∧ (edgeAt f o).1 ≠ f ∧ 0 ≤ (edgeAt f o).2.1 ∧ (edgeAt f o).2.1 < 4 ∧
    (dotP (frameP f).1 (frameP (edgeAt f o).1).1 = 0 ∧ dotP (dirP f o) (frameP (edgeAt f o).1).1 = 1 ∧ dotP (alP f o) (frameP (edgeAt f o).1).1 = 0) ∧
    (dotP (frameP f).1 (crP (edgeAt f o).1 (edgeAt f o).2.1) = sg (edgeAt f o).2.1 ∧ dotP (dirP f o) (crP (edgeAt f o).1 (edgeAt f o).2.1) = 0 ∧ dotP (alP f o) (crP (edgeAt f o).1 (edgeAt f o).2.1) = 0) ∧
    (dotP (frameP f).1 (alP (edgeAt f o).1 (edgeAt f o).2.1) = 0 ∧ dotP (dirP f o) (alP (edgeAt f o).1 (edgeAt f o).2.1) = 0 ∧ dotP (alP f o) (alP (edgeAt f o).1 (edgeAt f o).2.1) = fsg (edgeAt f o).2.2) := by
  rcases face_cases f0 f5 with rfl | rfl | rfl | rfl | rfl | rfl <;> rcases side_cases o0 o4 with rfl | rfl | rfl | rfl <;> decide
theorem dot_zero (v : Pt) : dotP (0, 0, 0) v = 0 := by unfold dotP; simp
theorem dot_dir (f o : Int) (v : Pt) (o0 : 0 ≤ o) (o4 : o < 4) : dotP (dirP f o) v = dxI o * dotP (frameP f).2.1 v + dyI o * dotP (frameP f).2.2 v := by
  rcases side_cases o0 o4 with rfl | rfl | rfl | rfl
  · show dotP (frameP f).2.1 v = 1 * _ + 0 * _; omega
  · show dotP (frameP f).2.2 v = 0 * _ + 1 * _; omega
  · show dotP (plusP (0, 0, 0) (-1) (frameP f).2.1) v = (-1) * _ + 0 * _; rw [dot_plus, dot_zero]; omega
  · show dotP (plusP (0, 0, 0) (-1) (frameP f).2.2) v = 0 * _ + (-1) * _; rw [dot_plus, dot_zero]; omega
theorem dot_stretch (n f i j o : Int) (v : Pt) (o0 : 0 ≤ o) (o4 : o < 4) : dotP (plusP (midP n f i j) 1 (dirP f o)) v = n * dotP (frameP f).1 v + (2 * i + 1 - n + dxI o) * dotP (frameP f).2.1 v + (2 * j + 1 - n + dyI o) * dotP (frameP f).2.2 v := by
  rw [dot_plus, dot_dir f o v o0 o4]
  unfold midP
  rw [dot_plus, dot_plus, dot_plus, dot_zero]
  have a := Int.add_mul (2 * i + 1 - n) (dxI o) (dotP (frameP f).2.1 v)
  have b := Int.add_mul (2 * j + 1 - n) (dyI o) (dotP (frameP f).2.2 v)
  rw [a, b]
  omega
theorem dot_rim (n f i j o : Int) (v : Pt) (o0 : 0 ≤ o) (o4 : o < 4) (hr : rim n i j o) : dotP (plusP (midP n f i j) 1 (dirP f o)) v = n * dotP (frameP f).1 v + n * dotP (dirP f o) v + (2 * alongO o i j + 1 - n) * dotP (alP f o) v := by
  rw [dot_stretch n f i j o v o0 o4, dot_dir f o v o0 o4]
  rcases side_cases o0 o4 with rfl | rfl | rfl | rfl
  · have hr : i = n - 1 := hr
    subst hr
    show n * _ + (2 * (n - 1) + 1 - n + 1) * dotP (frameP f).2.1 v + (2 * j + 1 - n + 0) * dotP (frameP f).2.2 v = n * _ + n * (1 * _ + 0 * _) + (2 * j + 1 - n) * dotP (frameP f).2.2 v
    rw [show 2 * (n - 1) + 1 - n + 1 = n by omega, show (1 : Int) * dotP (frameP f).2.1 v + 0 * dotP (frameP f).2.2 v = dotP (frameP f).2.1 v by omega, show 2 * j + 1 - n + 0 = 2 * j + 1 - n by omega]
  · have hr : j = n - 1 := hr
    subst hr
    show n * _ + (2 * i + 1 - n + 0) * dotP (frameP f).2.1 v + (2 * (n - 1) + 1 - n + 1) * dotP (frameP f).2.2 v = n * _ + n * (0 * _ + 1 * _) + (2 * i + 1 - n) * dotP (frameP f).2.1 v
    rw [show 2 * (n - 1) + 1 - n + 1 = n by omega, show (0 : Int) * dotP (frameP f).2.1 v + 1 * dotP (frameP f).2.2 v = dotP (frameP f).2.2 v by omega, show 2 * i + 1 - n + 0 = 2 * i + 1 - n by omega]
    omega
  · have hr : i = 0 := hr
    subst hr
    show n * _ + (2 * 0 + 1 - n + -1) * dotP (frameP f).2.1 v + (2 * j + 1 - n + 0) * dotP (frameP f).2.2 v = n * _ + n * (-1 * _ + 0 * _) + (2 * j + 1 - n) * dotP (frameP f).2.2 v
    rw [show 2 * 0 + 1 - n + -1 = -n by omega, show (-1 : Int) * dotP (frameP f).2.1 v + 0 * dotP (frameP f).2.2 v = -dotP (frameP f).2.1 v by omega, show 2 * j + 1 - n + 0 = 2 * j + 1 - n by omega, Int.neg_mul, Int.mul_neg]
  · have hr : j = 0 := hr
    subst hr
    show n * _ + (2 * i + 1 - n + 0) * dotP (frameP f).2.1 v + (2 * 0 + 1 - n + -1) * dotP (frameP f).2.2 v = n * _ + n * (0 * _ + -1 * _) + (2 * i + 1 - n) * dotP (frameP f).2.1 v
    rw [show 2 * 0 + 1 - n + -1 = -n by omega, show (0 : Int) * dotP (frameP f).2.1 v + -1 * dotP (frameP f).2.2 v = -dotP (frameP f).2.2 v by omega, show 2 * i + 1 - n + 0 = 2 * i + 1 - n by omega, Int.neg_mul, Int.mul_neg]
    omega
theorem lin3 {n a b x y z r : Int} {p q s : Int} (h : r = n * x + a * y + b * z) (hx : x = p) (hy : y = q) (hz : z = s) : r = n * p + a * q + b * s := by rw [h, hx, hy, hz]
theorem alongO_rng {n s i j : Int} (s0 : 0 ≤ s) (s4 : s < 4) (i0 : 0 ≤ i) (i1 : i < n) (j0 : 0 ≤ j) (j1 : j < n) : 0 ≤ alongO s i j ∧ alongO s i j < n := by
  rcases side_cases s0 s4 with rfl | rfl | rfl | rfl
  · exact ⟨j0, j1⟩
  · exact ⟨i0, i1⟩
  · exact ⟨j0, j1⟩
  · exact ⟨i0, i1⟩
end Go.Lift

set_option linter.unusedVariables false
set_option linter.unusedSimpArgs false
namespace Go.Lift
theorem index_in {n p x : Int} (h : x = 2 * p + 1 - n) (h0 : 0 ≤ p) (h1 : p < n) : indexI n x = p := by
  have e : Int.tdiv (x + n - 1) 2 = p := by rw [show x + n - 1 = 2 * p by omega, Int.mul_tdiv_cancel_left _ (by decide)]
  unfold indexI imin imax
  rw [e]
  (repeat' split) <;> omega
theorem index_hi {n x : Int} (h : x = n) (h1 : 1 ≤ n) : indexI n x = n - 1 := by
  have e : Int.tdiv (x + n - 1) 2 = n - 1 := by rw [Int.tdiv_eq_ediv_of_nonneg (by omega)]; omega
  unfold indexI imin imax
  rw [e]
  (repeat' split) <;> omega
theorem index_lo {n x : Int} (h : x = -n) (h1 : 1 ≤ n) : indexI n x = 0 := by
  have e : Int.tdiv (x + n - 1) 2 = 0 := by rw [show x + n - 1 = -1 by omega]; rfl
  unfold indexI imin imax
  rw [e]
  (repeat' split) <;> omega
theorem rim_facts {n f i j o : Int} (hm : WMiddle n f i j) (o0 : 0 ≤ o) (o4 : o < 4) (hr : rim n i j o) :
    0 ≤ flipK n (edgeAt f o).2.2 (alongO o i j) ∧ flipK n (edgeAt f o).2.2 (alongO o i j) < n ∧
    dotP (plusP (midP n f i j) 1 (dirP f o)) (crP (edgeAt f o).1 (edgeAt f o).2.1) = n * sg (edgeAt f o).2.1 ∧ dotP (plusP (midP n f i j) 1 (dirP f o)) (alP (edgeAt f o).1 (edgeAt f o).2.1) = 2 * flipK n (edgeAt f o).2.2 (alongO o i j) + 1 - n := by
  obtain ⟨n1, n2, f0, f5, i0, i1, j0, j1⟩ := hm
  have hR := fun v => dot_rim n f i j o v o0 o4 hr
  obtain ⟨a1, a2, a3, a4, a5, ⟨b1, b2, b3⟩, ⟨d1, d2, d3⟩, e1, e2, e3⟩ := edge_dots f0 f5 o0 o4
  obtain ⟨k0, k1⟩ := alongO_rng (n := n) o0 o4 i0 i1 j0 j1
  generalize edgeAt f o = E at *
  obtain ⟨t, s, fl⟩ := E
  dsimp only at *
  have h2 := lin3 (hR _) d1 d2 d3
  have h3 := lin3 (hR _) e1 e2 e3
  cases fl
  · have h3 : dotP (plusP (midP n f i j) 1 (dirP f o)) (alP t s) = n * 0 + n * 0 + (2 * alongO o i j + 1 - n) * 1 := h3
    exact ⟨k0, k1, by omega, by show _ = 2 * alongO o i j + 1 - n; omega⟩
  · have h3 : dotP (plusP (midP n f i j) 1 (dirP f o)) (alP t s) = n * 0 + n * 0 + (2 * alongO o i j + 1 - n) * -1 := h3
    exact ⟨by show 0 ≤ n - 1 - _; omega, by show n - 1 - _ < n; omega, by omega, by show _ = 2 * (n - 1 - alongO o i j) + 1 - n; omega⟩
def toL (p : Pt) : List Int := [p.1, p.2.1, p.2.2]
theorem toL_dot (a b : Pt) : dotW (toL a) (toL b) = dotP a b := rfl
theorem toL_plus (a b : Pt) : plusW (toL a) (toL b) = toL (plusP a 1 b) := by
  show [a.1 + b.1, a.2.1 + b.2.1, a.2.2 + b.2.2] = [a.1 + 1 * b.1, a.2.1 + 1 * b.2.1, a.2.2 + 1 * b.2.2]
  rw [Int.one_mul, Int.one_mul, Int.one_mul]
theorem toL_way {f : Int} (f0 : 0 ≤ f) (f5 : f ≤ 5) : wayAt (frameL f) 0 = toL (frameP f).1 ∧ wayAt (frameL f) 1 = toL (frameP f).2.1 ∧ wayAt (frameL f) 2 = toL (frameP f).2.2 := by
  rcases face_cases f0 f5 with rfl | rfl | rfl | rfl | rfl | rfl <;> exact ⟨rfl, rfl, rfl⟩
theorem toL_mid {n f i j : Int} (f0 : 0 ≤ f) (f5 : f ≤ 5) : middleI n f i j = toL (midP n f i j) := by
  obtain ⟨a, b, c⟩ := toL_way f0 f5
  unfold middleI
  rw [a, b, c]
  show [n * (frameP f).1.1 + (2 * i + 1 - n) * (frameP f).2.1.1 + (2 * j + 1 - n) * (frameP f).2.2.1, n * (frameP f).1.2.1 + (2 * i + 1 - n) * (frameP f).2.1.2.1 + (2 * j + 1 - n) * (frameP f).2.2.2.1, n * (frameP f).1.2.2 + (2 * i + 1 - n) * (frameP f).2.1.2.2 + (2 * j + 1 - n) * (frameP f).2.2.2.2] =
    [0 + n * (frameP f).1.1 + (2 * i + 1 - n) * (frameP f).2.1.1 + (2 * j + 1 - n) * (frameP f).2.2.1, 0 + n * (frameP f).1.2.1 + (2 * i + 1 - n) * (frameP f).2.1.2.1 + (2 * j + 1 - n) * (frameP f).2.2.2.1, 0 + n * (frameP f).1.2.2 + (2 * i + 1 - n) * (frameP f).2.1.2.2 + (2 * j + 1 - n) * (frameP f).2.2.2.2]
  rw [Int.zero_add, Int.zero_add, Int.zero_add]
theorem toL_out {f o : Int} (f0 : 0 ≤ f) (f5 : f ≤ 5) (o0 : 0 ≤ o) (o4 : o < 4) : outF (frameL f) o = toL (dirP f o) ∧ faceAtI (toL (dirP f o)) = (edgeAt f o).1 ∧ ∀ z, backI (frameL (edgeAt f o).1) (wayAt (frameL f) 0) z = (z, (edgeAt f o).2.1) := by
  rcases face_cases f0 f5 with rfl | rfl | rfl | rfl | rfl | rfl <;> rcases side_cases o0 o4 with rfl | rfl | rfl | rfl <;> exact ⟨rfl, rfl, fun z => rfl⟩
theorem over_nb {n f i j o : Int} (hm : WMiddle n f i j) (o0 : 0 ≤ o) (o4 : o < 4) (hr : rim n i j o) : overI n f i j o = nbC n f i j o := by
  obtain ⟨k0, k1, hc, ha⟩ := rim_facts hm o0 o4 hr
  obtain ⟨n1, n2, f0, f5, i0, i1, j0, j1⟩ := hm
  obtain ⟨b1, b2, b3⟩ := toL_out f0 f5 o0 o4
  obtain ⟨a1, a2, a3, a4, a5, _⟩ := edge_dots f0 f5 o0 o4
  obtain ⟨_, t2, t3⟩ := toL_way a1 a2
  have hn : nbC n f i j o = (cellI n (edgeAt f o).1 (atO n (edgeAt f o).2.1 (flipK n (edgeAt f o).2.2 (alongO o i j))).1 (atO n (edgeAt f o).2.1 (flipK n (edgeAt f o).2.2 (alongO o i j))).2, (edgeAt f o).2.1) := by unfold nbC nb; rw [if_pos hr]; rfl
  rw [hn]
  unfold overI
  rw [b1, b2, b3, t2, t3, toL_mid f0 f5, toL_plus, toL_dot, toL_dot]
  generalize edgeAt f o = E at *
  obtain ⟨t, s, fl⟩ := E
  dsimp only at *
  generalize flipK n fl (alongO o i j) = k at *
  rcases side_cases a4 a5 with rfl | rfl | rfl | rfl
  · have hc : dotP (plusP (midP n f i j) 1 (dirP f o)) (frameP t).2.1 = n * 1 := hc
    have ha : dotP (plusP (midP n f i j) 1 (dirP f o)) (frameP t).2.2 = _ := ha
    rw [index_hi (by omega) n1, index_in ha k0 k1]; rfl
  · have hc : dotP (plusP (midP n f i j) 1 (dirP f o)) (frameP t).2.2 = n * 1 := hc
    have ha : dotP (plusP (midP n f i j) 1 (dirP f o)) (frameP t).2.1 = _ := ha
    rw [index_in ha k0 k1, index_hi (by omega) n1]; rfl
  · have hc : dotP (plusP (midP n f i j) 1 (dirP f o)) (frameP t).2.1 = n * -1 := hc
    have ha : dotP (plusP (midP n f i j) 1 (dirP f o)) (frameP t).2.2 = _ := ha
    rw [index_lo (by omega) n1, index_in ha k0 k1]; rfl
  · have hc : dotP (plusP (midP n f i j) 1 (dirP f o)) (frameP t).2.2 = n * -1 := hc
    have ha : dotP (plusP (midP n f i j) 1 (dirP f o)) (frameP t).2.1 = _ := ha
    rw [index_in ha k0 k1, index_lo (by omega) n1]; rfl
theorem beside_nb {n c o : Int} (h : besideOk n c o = true) : besideI n c o = nbC n (c / (n * n)) (c % n) (c / n % n) o := by
  have h' := h
  unfold besideOk at h'
  simp only [Bool.and_eq_true, decide_eq_true_eq] at h'
  obtain ⟨⟨hp, o0⟩, o4⟩ := h'
  have hm := place_mid hp
  unfold besideI
  rw [if_pos h]
  generalize c / (n * n) = f at *
  generalize c % n = i at *
  generalize c / n % n = j at *
  by_cases hr : rim n i j o
  · have bad : ¬ WMiddle n f (i + dxI o) (j + dyI o) := by
      intro w
      obtain ⟨_, _, _, _, a, b, d, e⟩ := w
      rcases side_cases o0 o4 with rfl | rfl | rfl | rfl
      · have hr : i = n - 1 := hr
        have b : i + 1 < n := b
        omega
      · have hr : j = n - 1 := hr
        have b : j + 1 < n := e
        omega
      · have hr : i = 0 := hr
        have b : 0 ≤ i + -1 := a
        omega
      · have hr : j = 0 := hr
        have b : 0 ≤ j + -1 := d
        omega
    rw [cell_bad bad, if_neg (by decide)]
    exact over_nb hm o0 o4 hr
  · have good : WMiddle n f (i + dxI o) (j + dyI o) := by
      obtain ⟨n1, n2, f0, f5, i0, i1, j0, j1⟩ := hm
      rcases side_cases o0 o4 with rfl | rfl | rfl | rfl
      · have hr : ¬ i = n - 1 := hr
        exact ⟨n1, n2, f0, f5, by show 0 ≤ i + 1; omega, by show i + 1 < n; omega, by show 0 ≤ j + 0; omega, by show j + 0 < n; omega⟩
      · have hr : ¬ j = n - 1 := hr
        exact ⟨n1, n2, f0, f5, by show 0 ≤ i + 0; omega, by show i + 0 < n; omega, by show 0 ≤ j + 1; omega, by show j + 1 < n; omega⟩
      · have hr : ¬ i = 0 := hr
        exact ⟨n1, n2, f0, f5, by show 0 ≤ i + -1; omega, by show i + -1 < n; omega, by show 0 ≤ j + 0; omega, by show j + 0 < n; omega⟩
      · have hr : ¬ j = 0 := hr
        exact ⟨n1, n2, f0, f5, by show 0 ≤ i + 0; omega, by show i + 0 < n; omega, by show 0 ≤ j + -1; omega, by show j + -1 < n; omega⟩
    rw [if_pos (cell_rng (cellOk_mid good)).1]
    unfold nbC nb
    rw [if_neg hr]
    show _ = (cellI n f (i + dxI o) (j + dyI o), (o + 2) % 4)
    rw [Int.tmod_eq_emod_of_nonneg (by omega)]
theorem edge_back {f o : Int} (f0 : 0 ≤ f) (f5 : f ≤ 5) (o0 : 0 ≤ o) (o4 : o < 4) : 0 ≤ (edgeAt f o).1 ∧ (edgeAt f o).1 ≤ 5 ∧ (edgeAt f o).1 ≠ f ∧ 0 ≤ (edgeAt f o).2.1 ∧ (edgeAt f o).2.1 < 4 ∧ edgeAt (edgeAt f o).1 (edgeAt f o).2.1 = (f, o, (edgeAt f o).2.2) := by
  rcases face_cases f0 f5 with rfl | rfl | rfl | rfl | rfl | rfl <;> rcases side_cases o0 o4 with rfl | rfl | rfl | rfl <;> decide
theorem at_facts {n s k : Int} (s0 : 0 ≤ s) (s4 : s < 4) (k0 : 0 ≤ k) (k1 : k < n) : 0 ≤ (atO n s k).1 ∧ (atO n s k).1 < n ∧ 0 ≤ (atO n s k).2 ∧ (atO n s k).2 < n ∧ rim n (atO n s k).1 (atO n s k).2 s ∧ alongO s (atO n s k).1 (atO n s k).2 = k := by
  rcases side_cases s0 s4 with rfl | rfl | rfl | rfl
  · exact ⟨by show 0 ≤ n - 1; omega, by show n - 1 < n; omega, k0, k1, show n - 1 = n - 1 from rfl, rfl⟩
  · exact ⟨k0, k1, by show 0 ≤ n - 1; omega, by show n - 1 < n; omega, show n - 1 = n - 1 from rfl, rfl⟩
  · exact ⟨Int.le_refl 0, by show 0 < n; omega, k0, k1, show (0 : Int) = 0 from rfl, rfl⟩
  · exact ⟨k0, k1, Int.le_refl 0, by show 0 < n; omega, show (0 : Int) = 0 from rfl, rfl⟩
theorem at_along {n s i j : Int} (s0 : 0 ≤ s) (s4 : s < 4) (h : rim n i j s) : atO n s (alongO s i j) = (i, j) := by
  rcases side_cases s0 s4 with rfl | rfl | rfl | rfl
  · have h : i = n - 1 := h
    rw [h]; rfl
  · have h : j = n - 1 := h
    rw [h]; rfl
  · have h : i = 0 := h
    rw [h]; rfl
  · have h : j = 0 := h
    rw [h]; rfl
theorem along_rng {n s i j : Int} (s0 : 0 ≤ s) (s4 : s < 4) (i0 : 0 ≤ i) (i1 : i < n) (j0 : 0 ≤ j) (j1 : j < n) : 0 ≤ alongO s i j ∧ alongO s i j < n := by
  rcases side_cases s0 s4 with rfl | rfl | rfl | rfl
  · exact ⟨j0, j1⟩
  · exact ⟨i0, i1⟩
  · exact ⟨j0, j1⟩
  · exact ⟨i0, i1⟩
theorem flip_rng {n k : Int} {b : Bool} (k0 : 0 ≤ k) (k1 : k < n) : 0 ≤ flipK n b k ∧ flipK n b k < n ∧ flipK n b (flipK n b k) = k := by
  cases b
  · exact ⟨k0, k1, rfl⟩
  · exact ⟨by show 0 ≤ n - 1 - k; omega, by show n - 1 - k < n; omega, by show n - 1 - (n - 1 - k) = k; omega⟩
theorem nb_facts {n f i j o : Int} (hm : WMiddle n f i j) (o0 : 0 ≤ o) (o4 : o < 4) : WMiddle n (nb n f i j o).1.1 (nb n f i j o).1.2.1 (nb n f i j o).1.2.2 ∧ (nb n f i j o).1 ≠ (f, i, j) ∧ 0 ≤ (nb n f i j o).2 ∧ (nb n f i j o).2 < 4 ∧
    nb n (nb n f i j o).1.1 (nb n f i j o).1.2.1 (nb n f i j o).1.2.2 (nb n f i j o).2 = ((f, i, j), o) := by
  obtain ⟨n1, n2, f0, f5, i0, i1, j0, j1⟩ := hm
  by_cases hr : rim n i j o
  · obtain ⟨a1, a2, a3, a4, a5, a6⟩ := edge_back f0 f5 o0 o4
    obtain ⟨k0, k1⟩ := along_rng (n := n) o0 o4 i0 i1 j0 j1
    obtain ⟨g0, g1, g2⟩ := flip_rng (b := (edgeAt f o).2.2) k0 k1
    obtain ⟨b1, b2, b3, b4, b5, b6⟩ := at_facts a4 a5 g0 g1
    have hn : nb n f i j o = (((edgeAt f o).1, atO n (edgeAt f o).2.1 (flipK n (edgeAt f o).2.2 (alongO o i j))), (edgeAt f o).2.1) := by unfold nb; rw [if_pos hr]
    rw [hn]
    refine ⟨⟨n1, n2, a1, a2, b1, b2, b3, b4⟩, fun q => a3 (congrArg Prod.fst q), a4, a5, ?_⟩
    show nb n (edgeAt f o).1 (atO n (edgeAt f o).2.1 (flipK n (edgeAt f o).2.2 (alongO o i j))).1 (atO n (edgeAt f o).2.1 (flipK n (edgeAt f o).2.2 (alongO o i j))).2 (edgeAt f o).2.1 = _
    unfold nb
    rw [if_pos b5, a6, b6]
    show ((f, atO n o (flipK n (edgeAt f o).2.2 (flipK n (edgeAt f o).2.2 (alongO o i j)))), o) = _
    rw [g2, at_along o0 o4 hr]
  · have hn : nb n f i j o = ((f, i + dxI o, j + dyI o), (o + 2) % 4) := by unfold nb; rw [if_neg hr]
    rw [hn]
    rcases side_cases o0 o4 with rfl | rfl | rfl | rfl
    · have hr : ¬ i = n - 1 := hr
      refine ⟨⟨n1, n2, f0, f5, by show 0 ≤ i + 1; omega, by show i + 1 < n; omega, by show 0 ≤ j + 0; omega, by show j + 0 < n; omega⟩, fun q => ?_, by show (0 : Int) ≤ _ % 4; omega, by show _ % 4 < (4 : Int); omega, ?_⟩
      · have : i + 1 = i := congrArg (fun z => z.2.1) q
        omega
      · show nb n f (i + 1) (j + 0) 2 = _
        unfold nb; rw [if_neg (show ¬ rim n (i + 1) (j + 0) 2 from fun q => by have q : i + 1 = 0 := q; omega)]
        show ((f, i + 1 + -1, j + 0 + 0), (0 : Int)) = _
        rw [show i + 1 + -1 = i by omega, show j + 0 + 0 = j by omega]
    · have hr : ¬ j = n - 1 := hr
      refine ⟨⟨n1, n2, f0, f5, by show 0 ≤ i + 0; omega, by show i + 0 < n; omega, by show 0 ≤ j + 1; omega, by show j + 1 < n; omega⟩, fun q => ?_, by show (0 : Int) ≤ _ % 4; omega, by show _ % 4 < (4 : Int); omega, ?_⟩
      · have : j + 1 = j := congrArg (fun z => z.2.2) q
        omega
      · show nb n f (i + 0) (j + 1) 3 = _
        unfold nb; rw [if_neg (show ¬ rim n (i + 0) (j + 1) 3 from fun q => by have q : j + 1 = 0 := q; omega)]
        show ((f, i + 0 + 0, j + 1 + -1), (1 : Int)) = _
        rw [show i + 0 + 0 = i by omega, show j + 1 + -1 = j by omega]
    · have hr : ¬ i = 0 := hr
      refine ⟨⟨n1, n2, f0, f5, by show 0 ≤ i + -1; omega, by show i + -1 < n; omega, by show 0 ≤ j + 0; omega, by show j + 0 < n; omega⟩, fun q => ?_, by show (0 : Int) ≤ _ % 4; omega, by show _ % 4 < (4 : Int); omega, ?_⟩
      · have : i + -1 = i := congrArg (fun z => z.2.1) q
        omega
      · show nb n f (i + -1) (j + 0) 0 = _
        unfold nb; rw [if_neg (show ¬ rim n (i + -1) (j + 0) 0 from fun q => by have q : i + -1 = n - 1 := q; omega)]
        show ((f, i + -1 + 1, j + 0 + 0), (2 : Int)) = _
        rw [show i + -1 + 1 = i by omega, show j + 0 + 0 = j by omega]
    · have hr : ¬ j = 0 := hr
      refine ⟨⟨n1, n2, f0, f5, by show 0 ≤ i + 0; omega, by show i + 0 < n; omega, by show 0 ≤ j + -1; omega, by show j + -1 < n; omega⟩, fun q => ?_, by show (0 : Int) ≤ _ % 4; omega, by show _ % 4 < (4 : Int); omega, ?_⟩
      · have : j + -1 = j := congrArg (fun z => z.2.2) q
        omega
      · show nb n f (i + 0) (j + -1) 1 = _
        unfold nb; rw [if_neg (show ¬ rim n (i + 0) (j + -1) 1 from fun q => by have q : j + -1 = n - 1 := q; omega)]
        show ((f, i + 0 + 0, j + -1 + 1), (3 : Int)) = _
        rw [show i + 0 + 0 = i by omega, show j + -1 + 1 = j by omega]
theorem besideOk_iff {n c o : Int} : besideOk n c o = true ↔ placeOk n c = true ∧ 0 ≤ o ∧ o < 4 := by
  unfold besideOk; simp [Bool.and_eq_true, and_assoc]
theorem beside_back {n c o : Int} (h : besideOk n c o = true) : placeOk n (besideI n c o).1 = true ∧ (besideI n c o).1 ≠ c ∧ 0 ≤ (besideI n c o).2 ∧ (besideI n c o).2 < 4 ∧ besideI n (besideI n c o).1 (besideI n c o).2 = (c, o) := by
  obtain ⟨hp, o0, o4⟩ := besideOk_iff.1 h
  have hm := place_mid hp
  obtain ⟨a, b, d, e, g⟩ := nb_facts hm o0 o4
  have hc := place_cell hp
  rw [beside_nb h]
  generalize c / (n * n) = f at *
  generalize c % n = i at *
  generalize c / n % n = j at *
  unfold nbC
  obtain ⟨x, hx⟩ : ∃ x, nb n f i j o = x := ⟨_, rfl⟩
  rw [hx] at a b d e g ⊢
  obtain ⟨⟨t, p, q⟩, s⟩ := x
  dsimp only at *
  show placeOk n (cellI n t p q) = true ∧ cellI n t p q ≠ c ∧ 0 ≤ s ∧ s < 4 ∧ besideI n (cellI n t p q) s = (c, o)
  have p1 : placeOk n (cellI n t p q) = true := cell_place a
  refine ⟨p1, fun w => ?_, d, e, ?_⟩
  · obtain ⟨u, v, z⟩ := cell_inj a hm (w.trans hc.symm)
    exact b (Prod.ext u (Prod.ext v z))
  · rw [beside_nb (besideOk_iff.2 ⟨p1, d, e⟩)]
    obtain ⟨u, v, z⟩ := cell_parts a
    rw [u, v, z]
    unfold nbC
    rw [g]
    show (cellI n f i j, o) = _
    rw [hc]
end Go.Lift

set_option linter.unusedVariables false
set_option linter.unusedSimpArgs false
namespace Go.Lift
theorem mget_put (y z : Int × Int) (v : Int) : ∀ m : Nm, mget z (mput y v m) = if y = z then some v else mget z m
  | [] => rfl
  | p :: l => by
    show mget z (if p.1 = y then (y, v) :: l else p :: mput y v l) = _
    by_cases h : p.1 = y
    · rw [if_pos h]
      show (if y = z then some v else mget z l) = if y = z then some v else (if p.1 = z then some p.2 else mget z l)
      by_cases g : y = z
      · rw [if_pos g, if_pos g]
      · rw [if_neg g, if_neg g, if_neg (by rw [h]; exact g)]
    · rw [if_neg h]
      show (if p.1 = z then some p.2 else mget z (mput y v l)) = if y = z then some v else (if p.1 = z then some p.2 else mget z l)
      rw [mget_put y z v l]
      by_cases g : p.1 = z
      · rw [if_pos g, if_pos g, if_neg (by rintro rfl; exact h g)]
      · rw [if_neg g, if_neg g]
abbrev Rg := Int × List Ed × List Int
def raddE (n c o : Int) (s : List Ed × List Int) : List Ed × List Int :=
  if c < (besideI n c o).1 then (s.1 ++ [(c, o, (besideI n c o).1, (besideI n c o).2)], (s.2.set (4 * c + o).toNat s.1.length).set (4 * (besideI n c o).1 + (besideI n c o).2).toNat s.1.length) else s
def raddN (n c : Int) (s : List Ed × List Int) : Nat → List Ed × List Int
  | 0 => s
  | k + 1 => raddE n c k (raddN n c s k)
def rnetN (n : Int) : Nat → List Ed × List Int
  | 0 => ([], List.replicate (4 * cellsI n).toNat 0)
  | k + 1 => raddN n k (rnetN n k) 4
def rnetE (n : Int) : List Ed × List Int := rnetN n (cellsI n).toNat
def rnetG (n : Int) : Rg := (n, (rnetE n).1, (rnetE n).2)
def rnewR (n : Int) : Option Rg × Int × Unit := if cellsI n = 0 then (none, 10, ()) else (some (rnetG n), 0, ())
structure NInv (n T : Int) (E : List Ed) (m : Nm) (a : List Int) : Prop where
  there : ∀ c o, besideOk n c o = true → c < (besideI n c o).1 → 4 * c + o < T → ∃ k : Nat, mget (c, o) m = some (k : Int) ∧ mget (besideI n c o) m = some (k : Int) ∧ a[(4 * c + o).toNat]? = some (k : Int) ∧
    a[(4 * (besideI n c o).1 + (besideI n c o).2).toNat]? = some (k : Int) ∧ E[k]? = some (c, o, besideI n c o)
  keys : ∀ c o v, mget (c, o) m = some v → besideOk n c o = true
  edges : ∀ e ∈ E, besideOk n e.1 e.2.1 = true ∧ besideI n e.1 e.2.1 = e.2.2 ∧ e.1 < e.2.2.1 ∧ 4 * e.1 + e.2.1 < T
  len : a.length = (4 * cellsI n).toNat
  back : ∀ (k : Nat) (e : Ed), E[k]? = some e → mget (e.1, e.2.1) m = some (k : Int) ∧ mget e.2.2 m = some (k : Int)
theorem place_cells {n c : Int} (h : placeOk n c = true) : 0 ≤ c ∧ c < cellsI n := by
  unfold placeOk at h
  simp only [Bool.and_eq_true, decide_eq_true_eq] at h
  exact h
theorem NInv.skip {n c o : Int} {E : List Ed} {m : Nm} {a : List Int} (h : NInv n (4 * c + o) E m a) (ok : besideOk n c o = true) (hd : ¬ c < (besideI n c o).1) : NInv n (4 * c + o + 1) E m a := by
  obtain ⟨hp, o0, o4⟩ := besideOk_iff.1 ok
  refine ⟨fun c' o' ok' hl ht => h.there c' o' ok' hl ?_, h.keys, fun e he => ?_, h.len, h.back⟩
  · obtain ⟨hp', o0', o4'⟩ := besideOk_iff.1 ok'
    rcases Int.lt_or_eq_of_le (show 4 * c' + o' ≤ 4 * c + o by omega) with q | q
    · exact q
    · have : c' = c ∧ o' = o := by omega
      obtain ⟨rfl, rfl⟩ := this
      exact absurd hl hd
  · obtain ⟨a1, a2, a3, a4⟩ := h.edges e he
    exact ⟨a1, a2, a3, by omega⟩
theorem NInv.add {n c o : Int} {E : List Ed} {m : Nm} {a : List Int} (h : NInv n (4 * c + o) E m a) (ok : besideOk n c o = true) (hd : c < (besideI n c o).1) :
    NInv n (4 * c + o + 1) (E ++ [(c, o, besideI n c o)]) (mput (besideI n c o) E.length (mput (c, o) E.length m)) ((a.set (4 * c + o).toNat E.length).set (4 * (besideI n c o).1 + (besideI n c o).2).toNat E.length) := by
  obtain ⟨hp, o0, o4⟩ := besideOk_iff.1 ok
  obtain ⟨b1, b2, b3, b4, b5⟩ := beside_back ok
  have okb : besideOk n (besideI n c o).1 (besideI n c o).2 = true := besideOk_iff.2 ⟨b1, b3, b4⟩
  obtain ⟨c0, c1⟩ := place_cells hp
  obtain ⟨d0, d1⟩ := place_cells b1
  obtain ⟨p, hP⟩ : ∃ p, besideI n c o = p := ⟨_, rfl⟩
  rw [hP] at hd b1 b2 b3 b4 b5 okb d0 d1 ⊢
  have la : ∀ i : Nat, i < a.length → ((a.set (4 * c + o).toNat (E.length : Int)).set (4 * p.1 + p.2).toNat (E.length : Int))[i]? = if i = (4 * p.1 + p.2).toNat then some (E.length : Int) else if i = (4 * c + o).toNat then some (E.length : Int) else a[i]? := by
    intro i hi
    rw [List.getElem?_set, List.getElem?_set]
    by_cases q1 : (4 * p.1 + p.2).toNat = i
    · rw [if_pos q1, if_pos q1.symm, if_pos (by rw [List.length_set]; omega)]
    · rw [if_neg q1, if_neg (show ¬ i = (4 * p.1 + p.2).toNat from fun e => q1 e.symm)]
      by_cases q2 : (4 * c + o).toNat = i
      · rw [if_pos q2, if_pos q2.symm, if_pos (by omega)]
      · rw [if_neg q2, if_neg (show ¬ i = (4 * c + o).toNat from fun e => q2 e.symm)]
  have other : ∀ c' o' : Int, besideOk n c' o' = true → c' < (besideI n c' o').1 → 4 * c' + o' < 4 * c + o → ¬ (c, o) = (c', o') ∧ ¬ p = (c', o') ∧ ¬ (c, o) = besideI n c' o' ∧ ¬ p = besideI n c' o' := by
    intro c' o' ok' hl lt
    obtain ⟨hp', o0', o4'⟩ := besideOk_iff.1 ok'
    obtain ⟨b1', b2', b3', b4', b5'⟩ := beside_back ok'
    have n1 : ¬ (c, o) = (c', o') := fun e => by
      have e1 : c = c' := congrArg Prod.fst e
      have e2 : o = o' := congrArg Prod.snd e
      omega
    have n2 : ¬ p = (c', o') := by
      intro e
      have e1 : p.1 = c' := congrArg Prod.fst e
      omega
    refine ⟨n1, n2, fun e => ?_, fun e => ?_⟩
    · rw [← e] at b5'
      have e1 : besideI n c o = (c', o') := b5'
      rw [hP] at e1
      exact n2 e1
    · rw [← e, b5] at b5'
      exact n1 b5'
  refine ⟨fun c' o' ok' hl ht => ?_, fun c' o' v hv => ?_, fun e he => ?_, by rw [List.length_set, List.length_set]; exact h.len, fun k e hk => ?_⟩
  · obtain ⟨hp', o0', o4'⟩ := besideOk_iff.1 ok'
    obtain ⟨b1', b2', b3', b4', b5'⟩ := beside_back ok'
    obtain ⟨c0', c1'⟩ := place_cells hp'
    obtain ⟨d0', d1'⟩ := place_cells b1'
    by_cases q : c' = c ∧ o' = o
    · obtain ⟨rfl, rfl⟩ := q
      rw [hP]
      have hl2 := h.len
      refine ⟨E.length, ?_, ?_, ?_, ?_, by rw [List.getElem?_append_right (Nat.le_refl _), Nat.sub_self]; rfl⟩
      · rw [mget_put]
        split
        · rfl
        · rw [mget_put, if_pos rfl]
      · rw [mget_put, if_pos rfl]
      · rw [la _ (by omega)]
        split
        · rfl
        · rw [if_pos rfl]
      · rw [la _ (by omega), if_pos rfl]
    · have lt : 4 * c' + o' < 4 * c + o := by
        rcases Int.lt_or_eq_of_le (show 4 * c' + o' ≤ 4 * c + o by omega) with q' | q'
        · exact q'
        · exact absurd (show c' = c ∧ o' = o by omega) q
      obtain ⟨k, k1, k2, k3, k4, k5⟩ := h.there c' o' ok' hl lt
      obtain ⟨n1, n2, n3, n4⟩ := other c' o' ok' hl lt
      have hl2 := h.len
      have i1 : (4 * c' + o').toNat ≠ (4 * c + o).toNat := by omega
      have i2 : (4 * c' + o').toNat ≠ (4 * p.1 + p.2).toNat := by
        intro e
        exact n2 (Prod.ext (by show p.1 = c'; omega) (by show p.2 = o'; omega))
      obtain ⟨w, hW⟩ : ∃ w, besideI n c' o' = w := ⟨_, rfl⟩
      rw [hW] at hl b5' k2 k4 k5 n3 n4 d0' d1' b3' b4' ⊢
      have i3 : (4 * w.1 + w.2).toNat ≠ (4 * c + o).toNat := by
        intro e
        exact n3 (Prod.ext (by show c = w.1; omega) (by show o = w.2; omega))
      have i4 : (4 * w.1 + w.2).toNat ≠ (4 * p.1 + p.2).toNat := by
        intro e
        exact n4 (Prod.ext (by omega) (by omega))
      refine ⟨k, ?_, ?_, ?_, ?_, ?_⟩
      · rw [mget_put, if_neg n2, mget_put, if_neg n1, k1]
      · rw [mget_put, if_neg n4, mget_put, if_neg n3, k2]
      · rw [la _ (by omega), if_neg i2, if_neg i1, k3]
      · rw [la _ (by omega), if_neg i4, if_neg i3, k4]
      · rw [List.getElem?_append_left (List.getElem?_eq_some_iff.1 k5).1, k5]
  · rw [mget_put] at hv
    split at hv
    · rename_i e
      rw [e] at okb; exact okb
    · rw [mget_put] at hv
      split at hv
      · rename_i e
        cases e; exact ok
      · exact h.keys c' o' v hv
  · rcases List.mem_append.1 he with he | he
    · obtain ⟨a1, a2, a3, a4⟩ := h.edges e he
      exact ⟨a1, a2, a3, by omega⟩
    · obtain rfl := List.mem_singleton.1 he
      exact ⟨ok, hP, hd, by show 4 * c + o < _; omega⟩
  · rcases Nat.lt_or_ge k E.length with hk' | hk'
    · rw [List.getElem?_append_left hk'] at hk
      obtain ⟨m1, m2⟩ := h.back k e hk
      obtain ⟨a1, a2, a3, a4⟩ := h.edges e (List.mem_of_getElem? hk)
      obtain ⟨n1, n2, n3, n4⟩ := other e.1 e.2.1 a1 (by rw [a2]; exact a3) a4
      rw [a2] at n3 n4
      exact ⟨by rw [mget_put, if_neg n2, mget_put, if_neg n1, m1], by rw [mget_put, if_neg n4, mget_put, if_neg n3, m2]⟩
    · rw [List.getElem?_append_right hk'] at hk
      have hk0 : k = E.length := by
        have := (List.getElem?_eq_some_iff.1 hk).1
        simp at this; omega
      subst hk0
      rw [Nat.sub_self] at hk
      obtain rfl : (c, o, p) = e := Option.some.inj hk
      refine ⟨?_, by rw [mget_put, if_pos rfl]⟩
      rw [mget_put]
      split
      · rfl
      · rw [mget_put, if_pos rfl]
theorem step_both {n c o : Int} {s : List Ed × Nm} {r : List Ed × List Int} (he : s.1 = r.1) (h : NInv n (4 * c + o) s.1 s.2 r.2) (ok : besideOk n c o = true) :
    (addE n c o s).1 = (raddE n c o r).1 ∧ NInv n (4 * c + o + 1) (addE n c o s).1 (addE n c o s).2 (raddE n c o r).2 := by
  obtain ⟨b1, b2, b3, b4, b5⟩ := beside_back ok
  unfold addE raddE
  by_cases hd : c < (besideI n c o).1
  · rw [if_neg (by omega), if_pos hd]
    refine ⟨by show s.1 ++ _ = r.1 ++ _; rw [he], ?_⟩
    have := h.add ok hd
    rw [← he]
    exact this
  · rw [if_pos (by omega), if_neg hd]
    exact ⟨he, h.skip ok hd⟩
theorem addN_both {n c : Int} {s : List Ed × Nm} {r : List Ed × List Int} (hp : placeOk n c = true) (he : s.1 = r.1) (h : NInv n (4 * c) s.1 s.2 r.2) : ∀ k : Nat, k ≤ 4 →
    (addN n c s k).1 = (raddN n c r k).1 ∧ NInv n (4 * c + k) (addN n c s k).1 (addN n c s k).2 (raddN n c r k).2
  | 0, _ => ⟨he, by show NInv n (4 * c + 0) s.1 s.2 r.2; rw [Int.add_zero]; exact h⟩
  | k + 1, hk => by
    obtain ⟨a, b⟩ := addN_both hp he h k (by omega)
    have := step_both (c := c) (o := k) a b (besideOk_iff.2 ⟨hp, by omega, by omega⟩)
    rw [show (4 * c + ((k + 1 : Nat) : Int)) = 4 * c + k + 1 by omega]
    exact this
theorem net_both (n : Int) : ∀ k : Nat, (k : Int) ≤ cellsI n → (netN n k).1 = (rnetN n k).1 ∧ NInv n (4 * k) (netN n k).1 (netN n k).2 (rnetN n k).2
  | 0, _ => ⟨rfl, ⟨fun c o ok hl ht => by
      obtain ⟨hp, o0, o4⟩ := besideOk_iff.1 ok
      have := place_cells hp
      have ht : 4 * c + o < 4 * 0 := ht
      omega, fun c o v hv => (by cases hv), fun e he => (by cases he), List.length_replicate, fun k e hk => (by cases hk)⟩⟩
  | k + 1, hk => by
    obtain ⟨a, b⟩ := net_both n k (by omega)
    have hp : placeOk n (k : Int) = true := by
      unfold placeOk
      simp only [Bool.and_eq_true, decide_eq_true_eq]
      omega
    have := addN_both hp a b 4 (Nat.le_refl _)
    rw [show (4 * ((k + 1 : Nat) : Int)) = 4 * (k : Int) + (4 : Nat) by omega]
    exact this
theorem netE_both (n : Int) : (netE n).1 = (rnetE n).1 ∧ NInv n (4 * cellsI n) (netE n).1 (netE n).2 (rnetE n).2 := by
  have cr := cells_rng n
  have := net_both n (cellsI n).toNat (by omega)
  rw [show (((cellsI n).toNat : Nat) : Int) = cellsI n by omega] at this
  exact this
theorem net_side {n c o : Int} (ok : besideOk n c o = true) : ∃ k : Nat, k < (netE n).1.length ∧ mget (c, o) (netE n).2 = some (k : Int) ∧ (rnetE n).2[(4 * c + o).toNat]? = some (k : Int) ∧
    ((c < (besideI n c o).1 ∧ (netE n).1[k]? = some (c, o, besideI n c o)) ∨ ((besideI n c o).1 < c ∧ (netE n).1[k]? = some ((besideI n c o).1, (besideI n c o).2, c, o))) := by
  obtain ⟨_, I⟩ := netE_both n
  obtain ⟨hp, o0, o4⟩ := besideOk_iff.1 ok
  obtain ⟨b1, b2, b3, b4, b5⟩ := beside_back ok
  obtain ⟨c0, c1⟩ := place_cells hp
  obtain ⟨d0, d1⟩ := place_cells b1
  by_cases hd : c < (besideI n c o).1
  · obtain ⟨k, k1, k2, k3, k4, k5⟩ := I.there c o ok hd (by omega)
    exact ⟨k, (List.getElem?_eq_some_iff.1 k5).1, k1, k3, .inl ⟨hd, k5⟩⟩
  · obtain ⟨k, k1, k2, k3, k4, k5⟩ := I.there (besideI n c o).1 (besideI n c o).2 (besideOk_iff.2 ⟨b1, b3, b4⟩) (by rw [b5]; show (besideI n c o).1 < c; omega) (by omega)
    rw [b5] at k2 k4 k5
    exact ⟨k, (List.getElem?_eq_some_iff.1 k5).1, k2, k4, .inr ⟨by omega, k5⟩⟩
theorem net_none {n c o : Int} (h : ¬ besideOk n c o = true) : mget (c, o) (netE n).2 = none := by
  cases hm : mget (c, o) (netE n).2 with
  | none => rfl
  | some v => exact absurd ((netE_both n).2.keys c o v hm) h
def dEd : Ed := (0, 0, 0, 0)
def nIs (g : Option Gr) (e : Int) : Bool := match g with
  | none => false
  | some g => decide (0 ≤ e) && decide (e < (g.2.1.length : Nat))
def nIsR (g : Option Gr) (e : Int) : Bool × Unit := r1 (nIs g e)
def nEdge (g : Option Gr) (e : Int) : Ed := match g with
  | none => dEd
  | some g => if 0 ≤ e ∧ e < (g.2.1.length : Nat) then g.2.1.getD e.toNat dEd else dEd
def nEdgeR (g : Option Gr) (e : Int) : Ed × Bool × Unit := (nEdge g e, nIs g e, ())
def nAround (g : Option Gr) (c o : Int) : Int × Int := match g with
  | none => (0, 0)
  | some g => match mget (c, o) g.2.2.1 with
    | none => (0, 0)
    | some e => if (g.2.1.getD e.toNat dEd).1 = c then (e, 1) else (e, -1)
def nAroundR (g : Option Gr) (c o : Int) : Int × Int × Unit := ((nAround g c o).1, (nAround g c o).2, ())
def NetP (g : Option Gr) : Prop := g = none ∨ ∃ n, goodC n = true ∧ g = some (netG n)
def rAround (g : Option Rg) (c o : Int) : Int × Int := match g with
  | none => (0, 0)
  | some g => if besideOk g.1 c o then (if (g.2.1.getD (g.2.2.getD (4 * c + o).toNat 0).toNat dEd).1 = c then (g.2.2.getD (4 * c + o).toNat 0, 1) else (g.2.2.getD (4 * c + o).toNat 0, -1)) else (0, 0)
def sgnE (n c o : Int) : Int := if c < (besideI n c o).1 then 1 else -1
theorem around_net {n c o : Int} (ok : besideOk n c o = true) : ∃ k : Nat, k < (netE n).1.length ∧ nAround (some (netG n)) c o = ((k : Int), sgnE n c o) ∧ rAround (some (rnetG n)) c o = ((k : Int), sgnE n c o) ∧
    ((c < (besideI n c o).1 ∧ (netE n).1[k]? = some (c, o, besideI n c o)) ∨ ((besideI n c o).1 < c ∧ (netE n).1[k]? = some ((besideI n c o).1, (besideI n c o).2, c, o))) := by
  obtain ⟨k, hk, k1, k2, k3⟩ := net_side ok
  have he := (netE_both n).1
  have g1 : (rnetE n).2.getD (4 * c + o).toNat 0 = (k : Int) := by rw [List.getD_eq_getElem?_getD, k2]; rfl
  refine ⟨k, hk, ?_, ?_, k3⟩
  · show (match mget (c, o) (netE n).2 with | none => ((0 : Int), (0 : Int)) | some e => if ((netE n).1.getD e.toNat dEd).1 = c then (e, 1) else (e, -1)) = _
    rw [k1]
    dsimp only
    rw [Int.toNat_natCast, List.getD_eq_getElem?_getD]
    rcases k3 with ⟨h1, h2⟩ | ⟨h1, h2⟩
    · rw [h2]; unfold sgnE; rw [if_pos h1]; exact if_pos rfl
    · rw [h2]; unfold sgnE; rw [if_neg (show ¬ c < (besideI n c o).1 by omega)]; exact if_neg (show ¬ (besideI n c o).1 = c by omega)
  · show (if besideOk n c o then (if ((rnetE n).1.getD ((rnetE n).2.getD (4 * c + o).toNat 0).toNat dEd).1 = c then ((rnetE n).2.getD (4 * c + o).toNat 0, (1 : Int)) else ((rnetE n).2.getD (4 * c + o).toNat 0, -1)) else (0, 0)) = _
    rw [if_pos ok, g1, ← he, Int.toNat_natCast, List.getD_eq_getElem?_getD]
    rcases k3 with ⟨h1, h2⟩ | ⟨h1, h2⟩
    · rw [h2]; unfold sgnE; rw [if_pos h1]; exact if_pos rfl
    · rw [h2]; unfold sgnE; rw [if_neg (show ¬ c < (besideI n c o).1 by omega)]; exact if_neg (show ¬ (besideI n c o).1 = c by omega)
theorem nCells_net (n : Int) : nCells (some (netG n)) = cellsI n := by
  have cr := cells_rng n
  show (((areasL n).length : Nat) : Int) = _
  unfold areasL
  rw [List.length_map, List.length_range]; omega
end Go.Lift

set_option linter.unusedVariables false
namespace Go.Lift
def Bp (m : Int) (a : Pt) : Prop := (-m ≤ a.1 ∧ a.1 ≤ m) ∧ (-m ≤ a.2.1 ∧ a.2.1 ≤ m) ∧ (-m ≤ a.2.2 ∧ a.2.2 ≤ m)
def WNet (g : Option Gr) (c o : Int) : Prop := NetP g ∧ I64 c ∧ I64 o
def WNet1 (g : Option Gr) (e : Int) : Prop := NetP g ∧ I64 e
theorem Bp.mono {m m' : Int} {a : Pt} (h : Bp m a) (hm : m ≤ m') : Bp m' a := by unfold Bp at *; omega
theorem place_nat {n : Int} {k : Nat} (h : (k : Int) < cellsI n) : placeOk n (k : Int) = true := by
  unfold placeOk
  rw [decide_eq_true (p := (0 : Int) ≤ k) (by omega), decide_eq_true (p := (k : Int) < cellsI n) h]; rfl
end Go.Lift

set_option linter.unusedVariables false
namespace Go.Lift
def noHnP : Hn := { loops := fun _ => none, joins := fun _ => none }
def WU2 (a b : Int) : Prop := U64 a ∧ U64 b
def mulR2 (a b : Int) : Int × Int × Unit := (mulHi a b, mulLo a b, ())
def lzR (a : Int) : Int × Unit := (lz64 a, ())
theorem lz_eval {a : Int} (ha : U64 a) : F21 a (fun r => r = lzR a) := by
  have b := len64_bound (x := a) ha.2
  exact ⟨ha, by rw [wrap_i64_id _ (by omega) (by omega)]; rfl⟩
def WDiv (a b c : Int) : Prop := U64 a ∧ U64 b ∧ U64 c ∧ a < c
def divR2 (a b c : Int) : Int × Int × Unit := (divQ a b c, divR a b c, ())
def prtR (a b c : Int) : Int × Unit := (part a b c, ())
def AllI (c : List Int) : Prop := ∀ x ∈ c, I64 x
end Go.Lift

set_option linter.unusedVariables false
namespace Go.Lift
def FlowOk (f : Int) : Bool := decide (-4503599627370496 ≤ f) && decide (f ≤ 4503599627370496)
abbrev Ar := Int → Int → Int × Int
def outN (ar : Ar) (f : List Int) (c o : Int) : Int := imax 0 (f.getD (ar c o).1.toNat 0 * (ar c o).2)
def outsN (ar : Ar) (f : List Int) (c : Int) : List Int := [outN ar f c 0, outN ar f c 1, outN ar f c 2, outN ar f c 3]
def yesR : Bool × Unit := (true, ())
end Go.Lift

set_option linter.unusedVariables false
namespace Go.Lift
open Go
def iw (x : Int) : Int := IntKind.i64.wrap x
def intsR (a b : List Int) : Bool × Unit := (a == b, ())
end Go.Lift

set_option linter.unusedVariables false
set_option linter.unusedSimpArgs false
namespace Go.Lift
section takes
variable {a b : Int} {c : List Int}
end takes
section cuts
variable {a : Int} {c : List Int}
end cuts
structure ArOk (n : Int) (ar : Ar) : Prop where
  side : ∀ c o, besideOk n c o = true → ∃ k : Nat, k < (netE n).1.length ∧ ar c o = ((k : Int), sgnE n c o) ∧ mget (c, o) (netE n).2 = some (k : Int) ∧
    ((c < (besideI n c o).1 ∧ (netE n).1[k]? = some (c, o, besideI n c o)) ∨ ((besideI n c o).1 < c ∧ (netE n).1[k]? = some ((besideI n c o).1, (besideI n c o).2, c, o)))
section
variable {n : Int} {ar : Ar} (A : ArOk n ar) {f : List Int} (hf : ∀ x ∈ f, FlowOk x = true) (hl : f.length = (netE n).1.length)
include A hf hl
end
def gvV (ar : Ar) (f : List Int) (gv : Nat → List Int) (c o : Int) : Int := if 0 < outN ar f c o then (gv c.toNat).getD o.toNat 0 * (ar c o).2 else 0
def visV (ar : Ar) (f : List Int) (gv : Nat → List Int) (T c o : Int) : Int := if 4 * c + o < T then gvV ar f gv c o else 0
def LaidTo (n : Int) (ar : Ar) (f : List Int) (gv : Nat → List Int) (T : Int) (all : List Int) : Prop :=
  all.length = (netE n).1.length ∧ ∀ (k : Nat) (e : Ed), (netE n).1[k]? = some e → all[k]? = some (visV ar f gv T e.1 e.2.1 + visV ar f gv T e.2.2.1 e.2.2.2)
section
variable {n : Int} {ar : Ar} (A : ArOk n ar) {f : List Int} {gv : Nat → List Int}
include A
end
end Go.Lift

set_option linter.unusedVariables false
set_option linter.unusedSimpArgs false
set_option linter.unusedSectionVars false
namespace Go.Lift
section
variable {n : Int} {ar : Ar} (A : ArOk n ar) {f : List Int} (hf : ∀ x ∈ f, FlowOk x = true) (hl : f.length = (netE n).1.length)
include A hf
include hl
end
theorem netP_some {g : Gr} (h : NetP (some g)) : ∃ n, goodC n = true ∧ g = netG n := by
  rcases h with h | ⟨n, gn, h⟩
  · cases h
  · exact ⟨n, gn, Option.some.inj h⟩
theorem wi_small {x : Int} (h1 : -9223372036854775808 ≤ x) (h2 : x < 9223372036854775808) : IntKind.i64.wrap x = x := wi ⟨h1, h2⟩
end Go.Lift

set_option linter.unusedVariables false
set_option linter.unusedSimpArgs false
set_option linter.unusedSectionVars false
namespace Go.Lift
section
variable {n : Int} {ar : Ar} (A : ArOk n ar) {f : List Int} (hf : ∀ x ∈ f, FlowOk x = true)
include A hf
end
section
variable {N M : Int} {ar : Ar} {w h f : List Int}
end
end Go.Lift

set_option linter.unusedVariables false
set_option linter.unusedSimpArgs false
set_option linter.unusedSectionVars false
namespace Go.Lift
abbrev at0 (xs : List Int) (i : Nat) : Int := xs.getD i 0
theorem at0_set {xs : List Int} {i j : Nat} {v : Int} (hi : i < xs.length) : at0 (xs.set i v) j = if j = i then v else at0 xs j := by
  unfold at0
  by_cases e : j = i
  · subst e; rw [if_pos rfl]; rw [List.getD_eq_getElem?_getD, List.getElem?_set, if_pos rfl, if_pos hi]; rfl
  · rw [if_neg e, List.getD_eq_getElem?_getD, List.getElem?_set, if_neg (fun q => e q.symm), ← List.getD_eq_getElem?_getD]
theorem at0_ext {xs ys : List Int} (hl : xs.length = ys.length) (h : ∀ i, i < xs.length → at0 xs i = at0 ys i) : xs = ys := by
  apply List.ext_getElem hl
  intro i h1 h2
  have := h i h1
  unfold at0 at this
  rw [List.getD_eq_getElem?_getD, List.getD_eq_getElem?_getD, List.getElem?_eq_getElem h1, List.getElem?_eq_getElem h2] at this
  exact this
def swp (xs : List Int) (i j : Nat) : List Int := (xs.set i (at0 xs j)).set j (at0 xs i)
theorem swp_len (xs : List Int) (i j : Nat) : (swp xs i j).length = xs.length := by unfold swp; rw [List.length_set, List.length_set]
theorem swp_at {xs : List Int} {i j p : Nat} (hi : i < xs.length) (hj : j < xs.length) : at0 (swp xs i j) p = if p = j then at0 xs i else if p = i then at0 xs j else at0 xs p := by
  unfold swp
  rw [at0_set (by rw [List.length_set]; exact hj), at0_set hi]
theorem at0_get {xs : List Int} {i : Nat} (hi : i < xs.length) : at0 xs i = xs[i] := by
  unfold at0; rw [List.getD_eq_getElem?_getD, List.getElem?_eq_getElem hi]; rfl
theorem swp_perm {xs : List Int} {i j : Nat} (hi : i < xs.length) (hj : j < xs.length) : (swp xs i j).Perm xs := by
  unfold swp
  rw [at0_get hi, at0_get hj]
  exact List.set_set_perm hi hj
def remap (xs : List Int) (σ : Nat → Nat) : List Int := (List.range xs.length).map fun p => at0 xs (σ p)
theorem remap_len (xs : List Int) (σ : Nat → Nat) : (remap xs σ).length = xs.length := by unfold remap; rw [List.length_map, List.length_range]
theorem remap_at {xs : List Int} {σ : Nat → Nat} {p : Nat} (h : p < xs.length) : at0 (remap xs σ) p = at0 xs (σ p) := by
  unfold remap
  rw [show at0 ((List.range xs.length).map fun p => at0 xs (σ p)) p = (((List.range xs.length).map fun p => at0 xs (σ p))[p]?).getD 0 from List.getD_eq_getElem?_getD .., List.getElem?_map, List.getElem?_range h]; rfl
theorem remap_remap {xs : List Int} {σ τ υ : Nat → Nat} (hτ : ∀ p, p < xs.length → τ p < xs.length) (h : ∀ p, p < xs.length → σ (τ p) = υ p) : remap (remap xs σ) τ = remap xs υ := by
  refine at0_ext (by rw [remap_len, remap_len, remap_len]) fun i hi => ?_
  rw [remap_len, remap_len] at hi
  rw [remap_at (by rw [remap_len]; exact hi), remap_at (hτ i hi), remap_at hi, h i hi]
theorem remap_id {xs : List Int} {σ : Nat → Nat} (h : ∀ p, p < xs.length → σ p = p) : remap xs σ = xs :=
  at0_ext (remap_len _ _) fun i hi => by rw [remap_len] at hi; rw [remap_at hi, h i hi]
def swI (a b n p : Nat) : Nat := if a ≤ p ∧ p < a + n then b + (p - a) else if b ≤ p ∧ p < b + n then a + (p - b) else p
def rotI (a m b p : Nat) : Nat := if a ≤ p ∧ p < a + (b - m) then m + (p - a) else if a + (b - m) ≤ p ∧ p < b then a + (p - (a + (b - m))) else p
theorem swI_zero (a b p : Nat) : swI a b 0 p = p := by unfold swI; (repeat' split) <;> omega
theorem swap_step {xs : List Int} {a b n : Nat} (h : a + n < b) (hb : b + n < xs.length) : swp (remap xs (swI a b n)) (a + n) (b + n) = remap xs (swI a b (n + 1)) := by
  refine at0_ext (by rw [swp_len, remap_len, remap_len]) fun i hi => ?_
  rw [swp_len, remap_len] at hi
  rw [swp_at (i := a + n) (j := b + n) (by rw [remap_len]; omega) (by rw [remap_len]; omega), remap_at (p := a + n) (by omega), remap_at (p := b + n) (by omega), remap_at hi, remap_at hi]
  by_cases e1 : i = b + n
  · subst e1
    rw [if_pos rfl]
    congr 1
    unfold swI
    (repeat' split) <;> omega
  rw [if_neg e1]
  by_cases e2 : i = a + n
  · subst e2
    rw [if_pos rfl]
    congr 1
    unfold swI
    (repeat' split) <;> omega
  rw [if_neg e2]
  congr 1
  unfold swI
  (repeat' split) <;> omega
theorem rot_more {m i j : Nat} (h0 : 0 < j) (h : j < i) (hm : i ≤ m) (p : Nat) : swI (m - i) m j (rotI (m - (i - j)) m (m + j) p) = rotI (m - i) m (m + j) p := by
  unfold rotI
  (repeat' split) <;> unfold swI <;> (repeat' split) <;> omega
theorem rot_less {m i j : Nat} (h0 : 0 < i) (h : i < j) (hm : i ≤ m) (p : Nat) : swI (m - i) (m + j - i) i (rotI (m - i) m (m + (j - i)) p) = rotI (m - i) m (m + j) p := by
  unfold rotI
  (repeat' split) <;> unfold swI <;> (repeat' split) <;> omega
theorem rot_same {m i : Nat} (h0 : 0 < i) (hm : i ≤ m) (p : Nat) : swI (m - i) m i p = rotI (m - i) m (m + i) p := by
  unfold swI rotI
  repeat' split
  all_goals omega
theorem rotI_lt {a m b n p : Nat} (h1 : a ≤ m) (h2 : m ≤ b) (h3 : b ≤ n) (h : p < n) : rotI a m b p < n := by
  unfold rotI; (repeat' split) <;> omega
section
variable (kf : Int → Int)
def Stb (xs : List Int) : Prop := ∀ i j, i < j → j < xs.length → kf (at0 xs i) = kf (at0 xs j) → at0 xs i < at0 xs j
def Sgm (xs : List Int) (a b : Nat) : Prop := ∀ i j, a ≤ i → i < j → j < b → kf (at0 xs i) ≤ kf (at0 xs j)
structure Rr (a b : Nat) (xs ys : List Int) : Prop where
  perm : ys.Perm xs
  len : ys.length = xs.length
  out : ∀ i, i < a ∨ b ≤ i → at0 ys i = at0 xs i
  ins : ∀ P : Int → Prop, (∀ i, a ≤ i → i < b → P (at0 xs i)) → ∀ i, a ≤ i → i < b → P (at0 ys i)
  st : Stb kf xs → Stb kf ys
variable {kf}
theorem Rr.refl (a b : Nat) (xs : List Int) : Rr kf a b xs xs := ⟨.refl _, rfl, fun _ _ => rfl, fun P h => h, fun h => h⟩
theorem Rr.trans {a b : Nat} {xs ys zs : List Int} (h : Rr kf a b xs ys) (g : Rr kf a b ys zs) : Rr kf a b xs zs :=
  ⟨g.perm.trans h.perm, g.len.trans h.len, fun i hi => (g.out i hi).trans (h.out i hi), fun P hP => g.ins P (h.ins P hP), fun q => g.st (h.st q)⟩
theorem Rr.wide {a b a' b' : Nat} {xs ys : List Int} (h : Rr kf a b xs ys) (h1 : a' ≤ a) (h2 : b ≤ b') : Rr kf a' b' xs ys :=
  ⟨h.perm, h.len, fun i hi => h.out i (by omega), fun P hP i i1 i2 => by
    by_cases q : a ≤ i ∧ i < b
    · exact h.ins P (fun i i1 i2 => hP i (by omega) (by omega)) i q.1 q.2
    · rw [h.out i (by omega)]; exact hP i i1 i2, h.st⟩
theorem Rr.sgm {a b c d : Nat} {xs ys : List Int} (h : Rr kf a b xs ys) (hs : Sgm kf xs c d) (hd : d ≤ a ∨ b ≤ c) : Sgm kf ys c d := fun i j h1 h2 h3 => by
  rw [h.out i (by omega), h.out j (by omega)]; exact hs i j h1 h2 h3
theorem Sgm.sub {a b a' b' : Nat} {xs : List Int} (h : Sgm kf xs a b) (h1 : a ≤ a') (h2 : b' ≤ b) : Sgm kf xs a' b' := fun i j g1 g2 g3 => h i j (by omega) g2 (by omega)
theorem Sgm.one {a b : Nat} {xs : List Int} (h : b ≤ a + 1) : Sgm kf xs a b := fun i j g1 g2 g3 => by omega
theorem swp_rr {xs : List Int} {i a b : Nat} (h1 : a ≤ i) (h2 : i + 1 < b) (h3 : i + 1 < xs.length) (hlt : kf (at0 xs (i + 1)) < kf (at0 xs i)) : Rr kf a b xs (swp xs (i + 1) i) where
  perm := swp_perm h3 (by omega)
  len := swp_len _ _ _
  out p hp := by rw [swp_at h3 (by omega), if_neg (by omega), if_neg (by omega)]
  ins P hP p p1 p2 := by
    rw [swp_at h3 (by omega)]
    split
    · exact hP _ (by omega) (by omega)
    · split
      · exact hP _ (by omega) (by omega)
      · exact hP _ p1 p2
  st hs p q hpq hq he := by
    rw [swp_len] at hq
    rw [swp_at h3 (by omega), swp_at h3 (by omega)] at he ⊢
    by_cases e1 : p = i
    · subst e1
      rw [if_pos rfl] at he ⊢
      by_cases e2 : q = p + 1
      · subst e2
        rw [if_neg (by omega), if_pos rfl] at he
        omega
      · rw [if_neg (by omega), if_neg e2] at he ⊢
        exact hs _ _ (by omega) hq he
    rw [if_neg e1] at he ⊢
    by_cases e2 : p = i + 1
    · subst e2
      rw [if_pos rfl, if_neg (by omega), if_neg (by omega)] at he ⊢
      exact hs _ _ (by omega) hq he
    rw [if_neg e2] at he ⊢
    by_cases e3 : q = i
    · subst e3
      rw [if_pos rfl] at he ⊢
      exact hs _ _ (by omega) (by omega) he
    rw [if_neg e3] at he ⊢
    by_cases e4 : q = i + 1
    · subst e4
      rw [if_pos rfl] at he ⊢
      exact hs _ _ (by omega) (by omega) he
    rw [if_neg e4] at he ⊢
    exact hs _ _ hpq hq he
theorem rot_rr {xs ys : List Int} {a m b : Nat} (h1 : a ≤ m) (h2 : m ≤ b) (h3 : b ≤ xs.length) (hp : ys.Perm xs) (he : ys = remap xs (rotI a m b)) (hlt : ∀ i j, a ≤ i → i < m → m ≤ j → j < b → kf (at0 xs j) < kf (at0 xs i)) : Rr kf a b xs ys where
  perm := hp
  len := by rw [he, remap_len]
  out p hp' := by
    subst he
    rcases Nat.lt_or_ge p xs.length with g | g
    · rw [remap_at g]; congr 1; unfold rotI; rw [if_neg (by omega), if_neg (by omega)]
    · unfold at0
      rw [List.getD_eq_getElem?_getD, List.getD_eq_getElem?_getD, List.getElem?_eq_none (by rw [remap_len]; exact g), List.getElem?_eq_none g]
  ins P hP p p1 p2 := by
    subst he
    rw [remap_at (p := p) (by omega)]
    refine hP _ ?_ ?_ <;> unfold rotI <;> (repeat' split) <;> omega
  st hs p q hpq hq hk := by
    subst he
    rw [remap_len] at hq
    rw [remap_at (p := p) (by omega), remap_at hq] at hk ⊢
    have key : rotI a m b p < rotI a m b q ∨ (m ≤ rotI a m b p ∧ rotI a m b p < b ∧ a ≤ rotI a m b q ∧ rotI a m b q < m) := by
      unfold rotI; (repeat' split) <;> omega
    rcases key with key | ⟨k1, k2, k3, k4⟩
    · exact hs _ _ key (rotI_lt h1 h2 h3 hq) hk
    · have := hlt _ _ k3 k4 k1 k2
      omega
end
end Go.Lift

set_option linter.unusedVariables false
set_option linter.unusedSimpArgs false
namespace Go.Lift
theorem ResRep.one {w w' : World} {k : K} {x : k.T} {v : Value} {ok : Nat → Prop} (h : ∀ fr, KRep w' fr k x v) : ResRep w w' ok [.snap k] (x, ()) v :=
  ⟨[v], [], rfl, fun i j b h => by simp at h, v, [], [], [], rfl, rfl, ⟨rfl, h _⟩, rfl, rfl⟩
section
variable {P : Program} {G : Globs} {f : FuncId} {fn : Func} (hf : P.funcs[f]? = some fn) (hname : (fn.name == "runtime.NumGoroutine") = false) (hb : fn.body.isNone = true) (hn : Extern.findNext fn = none)
include hf hname hb hn
theorem ext_bits64 (he : Extern.find fn = some Extern.MathFloatBits.float64bits) : (Con.det [.flt .f64] [.snap (.int .u64)] (fun _ => True) (fun x => bitsR x.1)).holds P G f := by
  have main : ∀ (w : World) (ok : Nat → Prop) (b : Nat) (vs : List Value), vs = [.float .f64 b] → CallSpec P f vs.toArray w fun v w' => Grows w w' ∧ ResRep w w' ok [.snap (.int .u64)] (bitsR b) v := by
    rintro w ok b _ rfl
    refine .inl ⟨.int .u64 b, w, ?_, Grows.refl w, ResRep.one fun _ => rfl⟩
    rw [run_callFunc_extern hf hname hb hn he]; rfl
  rintro w ok _ ⟨b, ⟨⟩⟩ vs ⟨v, r, rfl, h1, rfl⟩ _ _
  exact main w ok b _ h1
theorem ext_from64 (he : Extern.find fn = some Extern.MathFloatBits.float64frombits) : (Con.det [.int .u64] [.snap (.flt .f64)] (fun _ => True) (fun x => fromR x.1)).holds P G f := by
  have main : ∀ (w : World) (ok : Nat → Prop) (b : Int) (vs : List Value), vs = [.int .u64 b] → CallSpec P f vs.toArray w fun v w' => Grows w w' ∧ ResRep w w' ok [.snap (.flt .f64)] (fromR b) v := by
    rintro w ok b _ rfl
    refine .inl ⟨.float .f64 b.toNat, w, ?_, Grows.refl w, ResRep.one fun _ => rfl⟩
    rw [run_callFunc_extern hf hname hb hn he]; rfl
  rintro w ok _ ⟨b, ⟨⟩⟩ vs ⟨v, r, rfl, h1, rfl⟩ _ _
  exact main w ok b _ h1
theorem ext_sqrt (he : Extern.find fn = some Extern.MathSqrt.sqrt) {ne} : (Con.rel [.flt .f64] [.snap (.flt .f64)] (fun _ => True) (fun x r => sqrtP x.1 r) ne).holds P G f := by
  have main : ∀ (w : World) (ok : Nat → Prop) (b : Nat) (vs : List Value), vs = [.float .f64 b] → CallSpec P f vs.toArray w fun v w' => ∃ r : RS [.snap (.flt .f64)], sqrtP b r ∧ Grows w w' ∧ ResRep w w' ok [.snap (.flt .f64)] r v := by
    rintro w ok b _ rfl
    have e : Extern.MathSqrt.sqrt [Value.float .f64 b].toArray = (match FloatKind.f64.format.sqrt b with
      | some r => pure (.float .f64 r)
      | none => do pure (.float .f64 (← choose (.nanBits .f64 b b)))) := rfl
    have key : ∀ (r : Nat) (w' : World), FRes .f64 (FloatKind.f64.format.sqrt b) r → Grows w w' → (Extern.MathSqrt.sqrt [Value.float .f64 b].toArray).run P w = .ok (.float .f64 r) w' →
        CallSpec P f [Value.float .f64 b].toArray w fun v w' => ∃ r : RS [.snap (.flt .f64)], sqrtP b r ∧ Grows w w' ∧ ResRep w w' ok [.snap (.flt .f64)] r v := by
      intro r w' hr hg hrun
      refine .inl ⟨.float .f64 r, w', ?_, (r, ()), fsqrt hr, hg, ResRep.one fun _ => rfl⟩
      rw [run_callFunc_extern hf hname hb hn he, hrun]; rfl
    cases hs : FloatKind.f64.format.sqrt b with
    | some r => exact key r w (by rw [hs]; rfl) (Grows.refl w) (by rw [e, hs]; rfl)
    | none =>
      refine key ((Question.nanBits .f64 b b).cut (w.tape w.drawn (.nanBits .f64 b b))) w.drew (by rw [hs]; exact nan_cut _ _ _ _) (Grows.drew w) ?_
      have hq : (Question.nanBits .f64 b b).forced = false := rfl
      rw [e, hs]
      simp [hq]
  rintro w ok _ ⟨b, ⟨⟩⟩ vs ⟨v, r, rfl, h1, rfl⟩ _ _
  exact main w ok b _ h1
end
end Go.Lift

set_option linter.unusedVariables false
set_option linter.unusedSimpArgs false
namespace Go.Lift
section
variable {P : Program} {G : Globs} {f : FuncId} {fn : Func} (hf : P.funcs[f]? = some fn) (hname : (fn.name == "runtime.NumGoroutine") = false) (hb : fn.body.isNone = true) (hn : Extern.findNext fn = none)
include hf hname hb hn
theorem ext_floor (he : Extern.find fn = some (Extern.MathFloor.toIntegral "math.archFloor" .down)) : (Con.det [.flt .f64] [.snap (.flt .f64)] (fun x => WNum x.1) (fun x => floorR x.1)).holds P G f := by
  have main : ∀ (w : World) (ok : Nat → Prop) (b : Nat) (vs : List Value), vs = [.float .f64 b] → WNum b → CallSpec P f vs.toArray w fun v w' => Grows w w' ∧ ResRep w w' ok [.snap (.flt .f64)] (floorR b) v := by
    rintro w ok b _ rfl hq
    refine .inl ⟨.float .f64 (floorF b), w, ?_, Grows.refl w, ResRep.one fun _ => rfl⟩
    rw [run_callFunc_extern hf hname hb hn he]
    have e : Extern.MathFloor.toIntegral "math.archFloor" .down [Value.float .f64 b].toArray = pure (.float .f64 (floorF b)) := by
      show (match Ieee.double.read b with
        | .nan s t => _
        | d => pure (Value.float .f64 (FloatKind.f64.encode (d.integral .down)))) = _
      have : (Ieee.double.read b).isNaN = false := (isN_eq b).trans hq.2
      unfold floorF
      cases h : Ieee.double.read b with
      | nan s t => rw [h] at this; cases this
      | number s m e => rfl
      | infinity s => rfl
    rw [e]; rfl
  rintro w ok _ ⟨b, ⟨⟩⟩ vs ⟨v, r, rfl, h1, rfl⟩ _ hp
  exact main w ok b _ h1 hp
end
end Go.Lift

set_option linter.unusedVariables false
set_option linter.unusedSimpArgs false
set_option linter.unusedSectionVars false
namespace Go.Lift
def enterE (cx : Cx) (hn : Hn) (call : CallEv) (nt : Nat) (vars : List ResultVar) (code : Code) (args : List EV) (h : List HObj) (k : EV → List HObj → Prop) : Prop :=
  aeval cx hn call code (args ++ List.replicate (nt - args.length) (.x (.one .junk))) h fun e env h' => match e with
    | .normal | .ret => resXs cx env h' vars fun vs => k (EV.of vs) h'
    | _ => False
def EvOk (P : Program) (cx : Cx) (f : FuncId) (ev : List EV → List HObj → (EV → List HObj → Prop) → Prop) : Prop := ∀ (c : RC) (_ : c.Inv) (_ : GOk cx.glob c) {args : List EV} {vs : List Value} {k : EV → List HObj → Prop}, All2 (EV.rel c) args vs → ev args c.heap k →
  CallSpec P f vs.toArray c.w fun v w' => ∃ ev c', k ev c'.heap ∧ c'.w = w' ∧ Ext c c' ∧ c'.Inv ∧ ev.rel c' v
theorem enterE_ok {P : Program} {cx : Cx} (hx : CxOk P cx) (hmix : P.follows .mixedOrders = true) {call : CallEv} (hcall : CallOk P cx call) {f nt : Nat} {vars : List ResultVar} {code : Code} (hf : FnAt P f nt vars code) (hn : Hn) : EvOk P cx f (enterE cx hn call nt vars code) := by
  intro c hi hg args vs k hall h
  unfold enterE at h
  obtain ⟨fu, h1, h2, h3, h4, h5⟩ := hf.ex
  refine .inr ⟨callFunc_run h1 h2 h5 _ _, calls_of_wp h1 h2 ?_⟩
  have hE := enter_rel hall nt
  rw [← h3] at hE h
  refine aeval_sound hx hmix hn hcall code (D := dsts code) (fun t h => h) hi (a := ⟨_, []⟩) hg hE h fun e c' env' a' k1 k2 k3 k4 k5 => ?_
  have fin : resXs cx env' c'.heap vars (fun vs => k (EV.of vs) c'.heap) → a'.defers = [] ∧ ∃ v, (results fu a'.tmps).run P c'.w = .ok v c'.w ∧ ∃ u, Ending.returned v = Ending.returned u ∧ ∃ ev c2, k ev c2.heap ∧ c2.w = c'.w ∧ Ext c c2 ∧ c2.Inv ∧ ev.rel c2 u := by
    intro hr
    obtain ⟨xs, us, g1, g2, g3⟩ := resXs_run hx.1 k3 k4 vars hr
    obtain ⟨v, ev, hv⟩ := results_run h4 g3
    exact ⟨k5.defers, v, hv, v, rfl, _, c', g1, rfl, k2, k3, EV.of_rel g2 ev⟩
  cases e with
  | normal => exact fin k1
  | ret => exact fin k1
  | _ => exact k1.elim
theorem EvOk.of {P : Program} {cx : Cx} {f : FuncId} {ev ev' : List EV → List HObj → (EV → List HObj → Prop) → Prop} (h : EvOk P cx f ev') (hl : ∀ args hp k, ev args hp k → ev' args hp k) : EvOk P cx f ev := fun c hi hg args vs k hall q => h c hi hg hall (hl _ _ _ q)
theorem EvOk.ofN {P : Program} {cx : Cx} {f : FuncId} {ev : List EV → List HObj → (EV → List HObj → Prop) → Prop} {ev' : Nat → List EV → List HObj → (EV → List HObj → Prop) → Prop} (h : ∀ N, EvOk P cx f (ev' N)) (hl : ∀ args hp k, ev args hp k → ∃ N, ev' N args hp k) : EvOk P cx f ev := fun c hi hg args vs k hall q => by
  obtain ⟨N, hN⟩ := hl _ _ _ q
  exact h N c hi hg hall hN
def addEv (f0 : FuncId) (ev : List EV → List HObj → (EV → List HObj → Prop) → Prop) (call : CallEv) : CallEv := fun f args h k => match Nat.beq f f0 with
  | true => ev args h k
  | false => call f args h k
theorem addEv_ok {P : Program} {cx : Cx} {f0 : FuncId} {ev : List EV → List HObj → (EV → List HObj → Prop) → Prop} {call : CallEv} (hev : EvOk P cx f0 ev) (hcall : CallOk P cx call) : CallOk P cx (addEv f0 ev call) := by
  intro c hi hg f args vs k hall h
  unfold addEv at h
  split at h
  · rename_i e
    have e := Nat.eq_of_beq_eq_true e
    subst e
    exact hev c hi hg hall h
  · exact hcall c hi hg hall h
def okeyB (bed : List Nat) (i : Int) : Int := placeI (canonF (bed.getD i.toNat 0))
def keyB (bed : List Nat) (i : Int) : Int := -(okeyB bed i)
def cmpB (bed : List Nat) (x y : Int) : Int := ordF (canonF (bed.getD y.toNat 0)) (canonF (bed.getD x.toNat 0))
def AllW (bed : List Nat) : Prop := ∀ b ∈ bed, W64 b
def BedOk (bed : List Nat) (xs : List Int) : Prop := AllW bed ∧ (∀ x ∈ xs, 0 ≤ x ∧ x < bed.length) ∧ xs.length ≤ maxN
def swapEv (ti : TypeId) (args : List EV) (h : List HObj) (k : EV → List HObj → Prop) : Prop := match args, h with
  | [.x (.one (.osl 1 0 len)), .x (.one (.val (.int .i64 a))), .x (.one (.val (.int .i64 b))), .x (.one (.val (.int .i64 n))), _], [.box m tb cs, .row .rw t (.int .i64) xs] =>
    ∃ _ : t = ti ∧ len = @List.length Int xs ∧ @List.length Int xs ≤ maxN ∧ 0 ≤ a ∧ 0 ≤ n ∧ a + n ≤ b ∧ b + n ≤ (@List.length Int xs : Int), ∀ ys : List Int, ys = remap xs (swI a.toNat b.toNat n.toNat) ∧ ys.Perm xs → k (.tup []) [.box m tb cs, .row .rw t (.int .i64) ys]
  | _, _ => False
def rotEv (ti : TypeId) (args : List EV) (h : List HObj) (k : EV → List HObj → Prop) : Prop := match args, h with
  | [.x (.one (.osl 1 0 len)), .x (.one (.val (.int .i64 a))), .x (.one (.val (.int .i64 m))), .x (.one (.val (.int .i64 b))), _], [.box md tb cs, .row .rw t (.int .i64) xs] =>
    ∃ _ : t = ti ∧ len = @List.length Int xs ∧ @List.length Int xs ≤ maxN ∧ 0 ≤ a ∧ a < m ∧ m < b ∧ b ≤ (@List.length Int xs : Int), ∀ ys : List Int, ys = remap xs (rotI a.toNat m.toNat b.toNat) ∧ ys.Perm xs → k (.tup []) [.box md tb cs, .row .rw t (.int .i64) ys]
  | _, _ => False
def insEv (ti : TypeId) (fc : FuncId) (args : List EV) (h : List HObj) (k : EV → List HObj → Prop) : Prop := match args, h with
  | [.x (.one (.osl 1 0 len)), .x (.one (.val (.int .i64 a))), .x (.one (.val (.int .i64 b))), .x (.one (.clo f [] [.ref 0 0]))], [.box m tb [.data (.slice (.flt .f64)) bed], .row .rw t (.int .i64) xs] =>
    ∃ _ : t = ti ∧ f = fc ∧ len = @List.length Int xs ∧ BedOk bed xs ∧ 0 ≤ a ∧ a ≤ b ∧ b ≤ (@List.length Int xs : Int), ∀ ys : List Int, Rr (keyB bed) a.toNat b.toNat xs ys ∧ Sgm (keyB bed) ys a.toNat b.toNat → k (.tup []) [.box m tb [.data (.slice (.flt .f64)) bed], .row .rw t (.int .i64) ys]
  | _, _ => False
def symEv (ti : TypeId) (fc : FuncId) (N : Nat) (args : List EV) (h : List HObj) (k : EV → List HObj → Prop) : Prop := match args, h with
  | [.x (.one (.osl 1 0 len)), .x (.one (.val (.int .i64 a))), .x (.one (.val (.int .i64 m))), .x (.one (.val (.int .i64 b))), .x (.one (.clo f [] [.ref 0 0]))], [.box md tb [.data (.slice (.flt .f64)) bed], .row .rw t (.int .i64) xs] =>
    ∃ _ : t = ti ∧ f = fc ∧ len = @List.length Int xs ∧ BedOk bed xs ∧ 0 ≤ a ∧ a < m ∧ m < b ∧ b ≤ (@List.length Int xs : Int) ∧ (b - a).toNat < N ∧ Sgm (keyB bed) xs a.toNat m.toNat ∧ Sgm (keyB bed) xs m.toNat b.toNat, ∀ ys : List Int, Rr (keyB bed) a.toNat b.toNat xs ys ∧ Sgm (keyB bed) ys a.toNat b.toNat → k (.tup []) [.box md tb [.data (.slice (.flt .f64)) bed], .row .rw t (.int .i64) ys]
  | _, _ => False
def stbEv (ti : TypeId) (fc : FuncId) (args : List EV) (h : List HObj) (k : EV → List HObj → Prop) : Prop := match args, h with
  | [.x (.one (.osl 1 0 len)), .x (.one (.val (.int .i64 n))), .x (.one (.clo f [] [.ref 0 0]))], [.box m tb [.data (.slice (.flt .f64)) bed], .row .rw t (.int .i64) xs] =>
    ∃ _ : t = ti ∧ f = fc ∧ len = @List.length Int xs ∧ BedOk bed xs ∧ n = (@List.length Int xs : Int), ∀ ys : List Int, Rr (keyB bed) 0 n.toNat xs ys ∧ Sgm (keyB bed) ys 0 n.toNat → k (.tup []) [.box m tb [.data (.slice (.flt .f64)) bed], .row .rw t (.int .i64) ys]
  | _, _ => False
def sortEv (ti : TypeId) (fc : FuncId) (args : List EV) (h : List HObj) (k : EV → List HObj → Prop) : Prop := match args, h with
  | [.x (.one (.osl 1 0 len)), .x (.one (.clo f [] [.ref 0 0]))], [.box m tb [.data (.slice (.flt .f64)) bed], .row .rw t (.int .i64) xs] =>
    ∃ _ : t = ti ∧ f = fc ∧ len = @List.length Int xs ∧ BedOk bed xs, ∀ ys : List Int, Rr (keyB bed) 0 (@List.length Int xs) xs ys ∧ Sgm (keyB bed) ys 0 (@List.length Int xs) → k (.tup []) [.box m tb [.data (.slice (.flt .f64)) bed], .row .rw t (.int .i64) ys]
  | _, _ => False
end Go.Lift

set_option linter.unusedVariables false
namespace Go.Lift
def comparR (a b : Nat) : Int × Unit := r1 (ordF (canonF a) (canonF b))
def seg (a b : Int) : List Int := (List.range' a.toNat (b.toNat - a.toNat)).map fun n : Nat => (n : Int)
def leB (bed : List Nat) (x y : Int) : Bool := decide (keyB bed x < keyB bed y ∨ (keyB bed x = keyB bed y ∧ x ≤ y))
def ordSegL (bed : List Nat) (a b : Int) : List Int := (seg a b).mergeSort (leB bed)
def ordL (bed : List Nat) : List Int := ordSegL bed 0 bed.length
def ordLR (bed : List Nat) : List Int × Unit := (ordL bed, ())
def WOrd (bed : List Nat) : Prop := AllW bed ∧ bed.length ≤ 65536
def cmpBR (x y : Int) (p : Option (List Nat)) : Int × Unit := match p with
  | some bed => r1 (cmpB bed x y)
  | none => r1 0
def WCmp (x y : Int) (p : Option (List Nat)) : Prop := ∃ bed, p = some bed ∧ (0 ≤ x ∧ x < (bed.length : Int)) ∧ (0 ≤ y ∧ y < (bed.length : Int)) ∧ AllW bed
end Go.Lift

set_option linter.unusedVariables false
namespace Go.Lift
def keptF (s : Int) : List Int → Bool
  | [] => true
  | x :: l => if x < 0 ∨ x > 4503599627370496 - s then false else keptF (s + x) l
def keptR (l : List Int) : Bool × Unit := r1 (keptF 0 l)
def sameLR (l : List Int) : List Int × Unit := (l, ())
def WSame (l : List Int) : Prop := l.length ≤ 65536
abbrev SeaT := List Nat × List Int × List Int × List Nat × Int × Int
def fitsS (n m : Int) (s : SeaT) : Bool := decide ((s.1.length : Int) = n) && decide ((s.2.1.length : Int) = n) && decide ((s.2.2.1.length : Int) = n) && decide ((s.2.2.2.1.length : Int) = m)
def gSide (g : Option Gr) : Int := match g with
  | none => 0
  | some g => g.1
def stepB (bed : List Nat) (best to : Int) : Int := if best < 0 ∨ okeyB bed to < okeyB bed best ∨ (okeyB bed to = okeyB bed best ∧ to < best) then to else best
def bestN (n : Int) (bed : List Nat) (c : Int) : Nat → Int
  | 0 => -1
  | k + 1 => stepB bed (bestN n bed c k) (besideI n c k).1
def downN (n : Int) (bed : List Nat) (c : Int) : Int := if okeyB bed (bestN n bed c 4) < okeyB bed c then bestN n bed c 4 else -1
def downF (some : Bool) (cells n : Int) (bed : List Nat) (c : Int) : Int := if !some ∨ (bed.length : Int) ≠ cells ∨ c < 0 ∨ (bed.length : Int) ≤ c then -1 else downN n bed c
def rvDownR (g : Option Gr) (bed : List Nat) (c : Int) : Int × Unit := r1 (downF g.isSome (nCells g) (gSide g) bed c)
def WRvDown (g : Option Gr) (bed : List Nat) (c : Int) : Prop := NetP g ∧ AllW bed
def shallowB (w a : Int) : Bool := fcmp Go.BinOp.lss (Go.FloatKind.f64.format.order (depthR w a).1 4602678819172646912)
def mvL (l : List Int) (i j : Int) (d : Int) : List Int := (l.set i.toNat (l.getD i.toNat 0 - d)).set j.toNat ((l.set i.toNat (l.getD i.toNat 0 - d)).getD j.toNat 0 + d)
def runStep (area down : Int → Int) (st : List Int × List Int) (c : Int) : List Int × List Int :=
  if down c < 0 ∨ st.1.getD c.toNat 0 ≤ 0 ∨ shallowB (st.1.getD c.toNat 0) (area c) = false then st else
  (mvL st.1 c (down c) (st.1.getD c.toNat 0 / 4), mvL st.2 c (down c) (part (st.2.getD c.toNat 0) (st.1.getD c.toNat 0 / 4) (st.1.getD c.toNat 0)))
def runA (area down : Int → Int) (order : List Int) (st : List Int × List Int) : List Int × List Int := order.foldl (runStep area down) st
def runF (some : Bool) (n m : Int) (area down : Int → Int) (s : SeaT) : List Int × List Int × Int × Unit := if !some then ([], [], 2, ()) else
  if (fitsS n m s && keptF 0 s.2.1) && keptF 0 s.2.2.1 then ((runA area down (ordL s.1) (s.2.1, s.2.2.1)).1, (runA area down (ordL s.1) (s.2.1, s.2.2.1)).2, 0, ()) else ([], [], 1, ())
def runFR (g : Option Gr) (s : SeaT) : List Int × List Int × Int × Unit := runF g.isSome (nCells g) (nEdges g) (areaI (gSide g)) (downF g.isSome (nCells g) (gSide g) s.1) s
def WRun (g : Option Gr) (s : SeaT) : Prop := NetP g ∧ AllW s.1 ∧ AllI s.2.1 ∧ AllI s.2.2.1
end Go.Lift

set_option linter.unusedVariables false
namespace Go.Lift
def yesS (_ : Int) (_ : SeaT) : Bool × Unit := (true, ())
end Go.Lift

set_option linter.unusedVariables false
namespace Go.Lift
open Go.Proofs
def Rbtab : List (Nat × TD) := [
  (72, ⟨.arr 4 2, 4, 32, [.int .i64 0, .int .i64 0, .int .i64 0, .int .i64 0], some (.arr 4 (.int .i64))⟩),
  (138, ⟨.struct [(0, 3), (1, 3), (2, 3)], 3, 24, [.int .i64 0, .int .i64 0, .int .i64 0], some (.pair (.int .i64) (.pair (.int .i64) (.int .i64)))⟩),
  (95, ⟨.struct [(0, 3), (1, 84), (2, 49)], 3, 56, [.int .i64 0, .slice none 0 0, .slice none 0 0], some (.pair (.int .i64) (.pair (.slice (.pair (.int .i64) (.pair (.int .i64) (.pair (.int .i64) (.int .i64))))) (.slice (.int .i64))))⟩),
  (25, ⟨.ptr 95, 1, 8, [.pointer none], some (.ptr (.pair (.int .i64) (.pair (.slice (.pair (.int .i64) (.pair (.int .i64) (.pair (.int .i64) (.int .i64))))) (.slice (.int .i64)))))⟩),
  (2, ⟨.int .i64, 1, 8, [.int .i64 0], some (.int .i64)⟩),
  (3, ⟨.int .i64, 1, 8, [.int .i64 0], some (.int .i64)⟩),
  (4, ⟨.bool, 1, 1, [.bool false], some (.bool)⟩),
  (5, ⟨.int .u8, 1, 1, [.int .u8 0], some (.int .u8)⟩),
  (9, ⟨.str, 1, 16, [.string ⟨#[]⟩], none⟩),
  (201, ⟨.int .u32, 1, 4, [.int .u32 0], some (.int .u32)⟩),
  (28, ⟨.int .i64, 1, 8, [.int .i64 0], some (.int .i64)⟩),
  (70, ⟨.int .u64, 1, 8, [.int .u64 0], some (.int .u64)⟩),
  (37, ⟨.slice 59, 1, 24, [.slice none 0 0], some (.slice (.flt .f64))⟩),
  (22, ⟨.slice 2, 1, 24, [.slice none 0 0], some (.slice (.int .i64))⟩),
  (60, ⟨.slice 4, 1, 24, [.slice none 0 0], some (.slice (.bool))⟩),
  (39, ⟨.struct [(0, 37), (1, 22), (2, 22), (3, 37), (4, 2), (5, 3)], 6, 112, [.slice none 0 0, .slice none 0 0, .slice none 0 0, .slice none 0 0, .int .i64 0, .int .i64 0], some (.pair (.slice (.flt .f64)) (.pair (.slice (.int .i64)) (.pair (.slice (.int .i64)) (.pair (.slice (.flt .f64)) (.pair (.int .i64) (.int .i64))))))⟩),
  (59, ⟨.flt .f64, 1, 8, [.float .f64 0], some (.flt .f64)⟩),
  (73, ⟨.arr 4 3, 4, 32, [.int .i64 0, .int .i64 0, .int .i64 0, .int .i64 0], some (.arr 4 (.int .i64))⟩),
  (118, ⟨.int .u64, 1, 8, [.int .u64 0], some (.int .u64)⟩),
  (130, ⟨.struct [(0, 59), (1, 59), (2, 59)], 3, 24, [.float .f64 0, .float .f64 0, .float .f64 0], some (.pair (.flt .f64) (.pair (.flt .f64) (.flt .f64)))⟩),
  (131, ⟨.arr 4 130, 12, 96, [.float .f64 0, .float .f64 0, .float .f64 0, .float .f64 0, .float .f64 0, .float .f64 0, .float .f64 0, .float .f64 0, .float .f64 0, .float .f64 0, .float .f64 0, .float .f64 0], some (.arr 4 (.pair (.flt .f64) (.pair (.flt .f64) (.flt .f64))))⟩),
  (92, ⟨.arr 2 3, 2, 16, [.int .i64 0, .int .i64 0], some (.arr 2 (.int .i64))⟩),
  (105, ⟨.arr 4 92, 8, 64, [.int .i64 0, .int .i64 0, .int .i64 0, .int .i64 0, .int .i64 0, .int .i64 0, .int .i64 0, .int .i64 0], some (.arr 4 (.arr 2 (.int .i64)))⟩),
  (169, ⟨.arr 3 59, 3, 24, [.float .f64 0, .float .f64 0, .float .f64 0], some (.arr 3 (.flt .f64))⟩),
  (108, ⟨.arr 3 3, 3, 24, [.int .i64 0, .int .i64 0, .int .i64 0], some (.arr 3 (.int .i64))⟩),
  (170, ⟨.arr 3 108, 9, 72, [.int .i64 0, .int .i64 0, .int .i64 0, .int .i64 0, .int .i64 0, .int .i64 0, .int .i64 0, .int .i64 0, .int .i64 0], some (.arr 3 (.arr 3 (.int .i64)))⟩),
  (171, ⟨.arr 6 170, 54, 432, [.int .i64 0, .int .i64 0, .int .i64 0, .int .i64 0, .int .i64 0, .int .i64 0, .int .i64 0, .int .i64 0, .int .i64 0, .int .i64 0, .int .i64 0, .int .i64 0, .int .i64 0, .int .i64 0, .int .i64 0, .int .i64 0, .int .i64 0, .int .i64 0, .int .i64 0, .int .i64 0, .int .i64 0, .int .i64 0, .int .i64 0, .int .i64 0, .int .i64 0, .int .i64 0, .int .i64 0, .int .i64 0, .int .i64 0, .int .i64 0, .int .i64 0, .int .i64 0, .int .i64 0, .int .i64 0, .int .i64 0, .int .i64 0, .int .i64 0, .int .i64 0, .int .i64 0, .int .i64 0, .int .i64 0, .int .i64 0, .int .i64 0, .int .i64 0, .int .i64 0, .int .i64 0, .int .i64 0, .int .i64 0, .int .i64 0, .int .i64 0, .int .i64 0, .int .i64 0, .int .i64 0, .int .i64 0], some (.arr 6 (.arr 3 (.arr 3 (.int .i64))))⟩),
  (49, ⟨.slice 3, 1, 24, [.slice none 0 0], some (.slice (.int .i64))⟩),
  (109, ⟨.arr 3 3, 3, 24, [.int .i64 0, .int .i64 0, .int .i64 0], some (.arr 3 (.int .i64))⟩),
  (111, ⟨.arr 3 109, 9, 72, [.int .i64 0, .int .i64 0, .int .i64 0, .int .i64 0, .int .i64 0, .int .i64 0, .int .i64 0, .int .i64 0, .int .i64 0], some (.arr 3 (.arr 3 (.int .i64)))⟩),
  (112, ⟨.arr 6 111, 54, 432, [.int .i64 0, .int .i64 0, .int .i64 0, .int .i64 0, .int .i64 0, .int .i64 0, .int .i64 0, .int .i64 0, .int .i64 0, .int .i64 0, .int .i64 0, .int .i64 0, .int .i64 0, .int .i64 0, .int .i64 0, .int .i64 0, .int .i64 0, .int .i64 0, .int .i64 0, .int .i64 0, .int .i64 0, .int .i64 0, .int .i64 0, .int .i64 0, .int .i64 0, .int .i64 0, .int .i64 0, .int .i64 0, .int .i64 0, .int .i64 0, .int .i64 0, .int .i64 0, .int .i64 0, .int .i64 0, .int .i64 0, .int .i64 0, .int .i64 0, .int .i64 0, .int .i64 0, .int .i64 0, .int .i64 0, .int .i64 0, .int .i64 0, .int .i64 0, .int .i64 0, .int .i64 0, .int .i64 0, .int .i64 0, .int .i64 0, .int .i64 0, .int .i64 0, .int .i64 0, .int .i64 0, .int .i64 0], some (.arr 6 (.arr 3 (.arr 3 (.int .i64))))⟩),
  (87, ⟨.struct [(0, 3), (1, 84), (2, 83), (3, 85), (4, 22), (5, 37), (6, 37)], 7, 136, [.int .i64 0, .slice none 0 0, .map none, .slice none 0 0, .slice none 0 0, .slice none 0 0, .slice none 0 0], some (.pair (.int .i64) (.pair (.slice (.pair (.int .i64) (.pair (.int .i64) (.pair (.int .i64) (.int .i64))))) (.pair (.map (.pair (.int .i64) (.int .i64)) (.int .i64)) (.pair (.slice (.arr 2 (.int .i64))) (.pair (.slice (.int .i64)) (.pair (.slice (.flt .f64)) (.slice (.flt .f64))))))))⟩),
  (24, ⟨.ptr 87, 1, 8, [.pointer none], some (.ptr (.pair (.int .i64) (.pair (.slice (.pair (.int .i64) (.pair (.int .i64) (.pair (.int .i64) (.int .i64))))) (.pair (.map (.pair (.int .i64) (.int .i64)) (.int .i64)) (.pair (.slice (.arr 2 (.int .i64))) (.pair (.slice (.int .i64)) (.pair (.slice (.flt .f64)) (.slice (.flt .f64)))))))))⟩),
  (91, ⟨.struct [(0, 3), (1, 3), (2, 3), (3, 3)], 4, 32, [.int .i64 0, .int .i64 0, .int .i64 0, .int .i64 0], some (.pair (.int .i64) (.pair (.int .i64) (.pair (.int .i64) (.int .i64))))⟩),
  (84, ⟨.slice 91, 1, 24, [.slice none 0 0], some (.slice (.pair (.int .i64) (.pair (.int .i64) (.pair (.int .i64) (.int .i64)))))⟩),
  (85, ⟨.slice 92, 1, 24, [.slice none 0 0], some (.slice (.arr 2 (.int .i64)))⟩),
  (83, ⟨.map 124 3, 1, 8, [.map none], some (.map (.pair (.int .i64) (.int .i64)) (.int .i64))⟩),
  (124, ⟨.struct [(0, 3), (1, 3)], 2, 16, [.int .i64 0, .int .i64 0], some (.pair (.int .i64) (.int .i64))⟩),
  (88, ⟨.plain, 1, 8, [.nilFunc], none⟩),
  (89, ⟨.slice 88, 1, 24, [.slice none 0 0], none⟩)]
theorem Rbtab_ok : tabB Tryz.prog Rbtab = true := by kernel_rfl
theorem Rbmixed : Tryz.prog.follows .mixedOrders = true := by kernel_rfl
def RbG : Globs := fun g => match g with | 0 => some ⟨.arr 6 (.arr 3 (.arr 3 (.int .i64))), framesL⟩ | 4 => some ⟨.arr 6 (.arr 3 (.arr 3 (.int .i64))), framesL⟩ | _ => none
noncomputable def Rbfns_sort3 (f : Nat) : Option InFn := match f with
  | 167 => some ⟨Tryz.f167.ntmps, Tryz.f167.results.toList, Tryz.f167.body.getD .skip, { loops := fun _ => none, joins := fun _ => none, inl := inlL [167, 180, 188], unroll := fun k => some 4 }⟩
  | 180 => some ⟨Tryz.f180.ntmps, Tryz.f180.results.toList, Tryz.f180.body.getD .skip, { loops := fun _ => none, joins := fun _ => none, inl := inlL [167, 180, 188], unroll := fun k => some 4 }⟩
  | 188 => some ⟨Tryz.f188.ntmps, Tryz.f188.results.toList, Tryz.f188.body.getD .skip, { loops := fun _ => none, joins := fun _ => none, inl := inlL [167, 180, 188], unroll := fun k => some 4 }⟩
  | _ => none
theorem Rbfns_sort3_ok : FnsOk Tryz.prog Rbfns_sort3 := by
  intro f fn h
  unfold Rbfns_sort3 at h
  split at h
  · cases h; exact ⟨Tryz.f167, Tryz.func167, rfl, rfl, by simp, by decide⟩
  · cases h; exact ⟨Tryz.f180, Tryz.func180, rfl, rfl, by simp, by decide⟩
  · cases h; exact ⟨Tryz.f188, Tryz.func188, rfl, rfl, by simp, by decide⟩
  · cases h
noncomputable def Rbfns_lake19 (f : Nat) : Option InFn := match f with
  | 54 => some ⟨Tryz.f54.ntmps, Tryz.f54.results.toList, Tryz.f54.body.getD .skip, { loops := hintH [(6, { ls := [(.slot 5, .data (.int .i64))], os := [(3, 2, .int .i64)] })], joins := fun _ => none, named := true }⟩
  | _ => none
theorem Rbfns_lake19_ok : FnsOk Tryz.prog Rbfns_lake19 := by
  intro f fn h
  unfold Rbfns_lake19 at h
  split at h
  · cases h; exact ⟨Tryz.f54, Tryz.func54, rfl, rfl, by simp, by decide⟩
  · cases h
noncomputable def Rbfns_grid (f : Nat) : Option InFn := match f with
  | 59 => some ⟨Tryz.f59.ntmps, Tryz.f59.results.toList, Tryz.f59.body.getD .skip, { loops := hintH [(1, { ls := [(.slot 7, .data (.int .i64)), (.cell 1 1, .row 91 kEdge)], os := [(0, 83, .ent (.pair (.int .i64) (.int .i64)) (.int .i64))] })], joins := fun _ => none }⟩
  | 60 => some ⟨Tryz.f60.ntmps, Tryz.f60.results.toList, Tryz.f60.body.getD .skip, nHn⟩
  | _ => none
theorem Rbfns_grid_ok : FnsOk Tryz.prog Rbfns_grid := by
  intro f fn h
  unfold Rbfns_grid at h
  split at h
  · cases h; exact ⟨Tryz.f59, Tryz.func59, rfl, rfl, by simp, by decide⟩
  · cases h; exact ⟨Tryz.f60, Tryz.func60, rfl, rfl, by simp, by decide⟩
  · cases h
end Go.Lift

namespace Go.Lift
theorem rngF {b : Nat} (h : K.rng (.flt .f64) b) : W64 b := by
  have h : (Lit.float .f64 b).wf = true := h
  have := of_decide_eq_true (show decide (b < 2 ^ 64) = true from h)
  exact this
theorem rngL {l : List Nat} (h : K.rng (.slice (.flt .f64)) l) : WL l := fun x hx => rngF (h x hx)
end Go.Lift

set_option linter.unusedVariables false
set_option linter.unusedSimpArgs false
namespace Go.Lift
open Go.ChangeShapes Go.WideShapes Go.RowKit
mutual
def K.ofD : (k : K) → DataW Unit → Option k.T
  | .int ik, .lit (.int jk n) => if jk = ik then some n else none
  | .arr n e, .agg ds => match ofDs e ds with
    | some xs => if xs.length = n then some xs else none
    | none => none
  | _, _ => none
def ofDs : (e : K) → List (DataW Unit) → Option (List e.T)
  | _, [] => some []
  | e, d :: ds => match K.ofD e d with
    | some x => match ofDs e ds with
      | some xs => some (x :: xs)
      | none => none
    | none => none
end
theorem rows_by {α : Type} {R : α → List Value → Prop} {s : Nat} : ∀ {ys : List α} {cs : List Value}, cs.length = ys.length * s → (∀ (i : Nat) (y : α), ys[i]? = some y → R y ((cs.drop (i * s)).take s)) → Rows R ys cs
  | [], cs, h, _ => List.eq_nil_of_length_eq_zero (by simpa using h)
  | y :: ys, cs, h, hr => by
    rw [List.length_cons, Nat.add_mul, Nat.one_mul] at h
    refine ⟨cs.take s, cs.drop s, (List.take_append_drop s cs).symm, by simpa using hr 0 y rfl, rows_by (s := s) (by rw [List.length_drop]; omega) fun i z hz => ?_⟩
    have := hr (i + 1) z (by simpa using hz)
    rwa [Nat.add_mul, Nat.one_mul, Nat.add_comm, ← List.drop_drop] at this
theorem ofDs_get : ∀ {e : K} {ds : List (DataW Unit)} {xs : List e.T}, ofDs e ds = some xs → xs.length = ds.length ∧ ∀ (i : Nat) (x : e.T), xs[i]? = some x → ∃ d, ds[i]? = some d ∧ K.ofD e d = some x
  | e, [], xs, h => by simp only [ofDs, Option.some.injEq] at h; subst h; exact ⟨rfl, fun i x hx => by simp at hx⟩
  | e, d :: ds, xs, h => by
    simp only [ofDs] at h
    split at h
    · rename_i x hx
      split at h
      · rename_i ys hys
        cases h
        obtain ⟨h1, h2⟩ := ofDs_get hys
        refine ⟨by simp [h1], fun i z hz => ?_⟩
        cases i with
        | zero => simp at hz; subst hz; exact ⟨d, rfl, hx⟩
        | succ i => simpa using h2 i z (by simpa using hz)
      · cases h
    · cases h
theorem trod_ofD {P : Program} {w : World} {ok : Nat → Prop} : ∀ {k : K} {t : TypeId}, KT P t k → ∀ {fuel : Nat} {cs : List Value} {x : DataW Unit × List MemPlace} {y : k.T}, DataW.trod (fun _ => ()) P w 0 (fun _ => true) false fuel t cs = some x → K.ofD k x.1 = some y → k.rep w ok y cs := by
  intro k
  induction k with
  | int ik =>
    intro t hk fuel cs x y h hy
    cases hk with
    | int ht =>
      obtain ⟨n, h1, h2, _⟩ := DataW.trod_int ht h
      rw [h2] at hy
      simp only [K.ofD, if_true] at hy
      obtain rfl := Option.some.inj hy
      exact h1
  | arr n e ih =>
    intro t hk fuel cs x y h hy
    cases hk with
    | arr ht hc hs he =>
      obtain ⟨xs, m, rfl, rfl, h1, h2, h3⟩ := DataW.trod_array ht h
      simp only [K.ofD] at hy
      split at hy
      · rename_i ys hys
        split at hy
        · rename_i hl
          cases hy
          obtain ⟨g1, g2⟩ := ofDs_get hys
          refine ⟨hl, rows_by (s := e.sz) (by rw [h1, hs, hl]) fun i z hz => ?_⟩
          obtain ⟨d, hd, hz2⟩ := g2 i z hz
          have hi : i < n := by rw [← hl]; exact (List.getElem?_eq_some_iff.1 hz).1
          have h4 := h3 i hi
          rw [hc] at h4
          rw [List.getElem?_map] at hd
          cases hx : xs[i]? with
          | none => rw [hx] at hd; cases hd
          | some q =>
            rw [hx] at hd h4
            cases hd
            exact ih he h4 hz2
        · cases hy
      · cases hy
  | _ => intro t hk fuel cs x y h hy; simp [K.ofD] at hy
theorem laid_mem {P : Program} {w : World} {n : String} {d : DataW Unit} : ∀ {l : List (String × DataW Unit)} {ps : List MemPlace}, DataW.LaidVars P w l ps → (n, d) ∈ l →
    ∃ g t cs fuel p, P.globalNamed n = some g ∧ (P.globals[g]?).map (·.type) = some t ∧ w.var? P n = some cs ∧ DataW.trod (fun _ => ()) P w 0 (fun _ => true) false fuel t cs.toList = some (d, p)
  | [], ps, _, h => by cases h
  | (m, e) :: l, ps, ⟨g, t, cs, fuel, p, q, h1, h2, h3, h4, h5, _⟩, h => by
    rcases List.mem_cons.1 h with h | h
    · cases h; exact ⟨g, t, cs, fuel, p, h1, h2, h3, h4⟩
    · exact laid_mem h5 h
theorem laid_rep {P : Program} {w : World} {l : List (String × DataW Unit)} (h : laidMet P l w) {n : String} {d : DataW Unit} (hm : (n, d) ∈ l) {g : Nat} {t : TypeId} (hg : P.globalNamed n = some g) (ht : (P.globals[g]?).map (·.type) = some t) {k : K} (hk : KT P t k) {x : k.T} (hx : K.ofD k d = some x) :
    (K.ptr k).rep w (fun b => b < w.heap.size) (some x) [.pointer (some ⟨g, 0, none⟩)] := by
  obtain ⟨ps, h1, _, _⟩ := h
  obtain ⟨g', t', cs, fuel, p, h2, h3, h4, h5⟩ := laid_mem h1 hm
  rw [hg] at h2; cases h2
  rw [ht] at h3; cases h3
  have hlt : g < w.heap.size := by
    simp only [World.var?, hg, Option.bind_some] at h4
    split at h4
    · rename_i hh; exact lt_of_some hh
    · cases h4
  refine .inr ⟨x, g, 0, cs.toList, rfl, rfl, hlt, trod_ofD hk h5 hx, fun j v hj => ?_⟩
  rw [Nat.zero_add, World.var?_cell hg h4 j]
  simpa using hj
section
variable {H : Type} {enc : TypeId × Value → H}
theorem law_laid {C : Checked} {os : Os} {f : FuncId} {fn : Func} {s : ChangeSpec} {ks : List K} {pre : KS ks → Prop} {tb : TypeId} {G : Globs} {X : World → Array Value → Prop} (hX : ∀ (w w' : World) (args : Array Value), w.heap = w'.heap → X w args → X w' args) (hG : ∀ (w : World) (args : Array Value), X w args → GW G w (fun b => b < w.heap.size))
    (own : ownKnob C.prog.godebug = none) (started : os.Started) (noInit : C.prog.inits.idxOf? f = none)
    (hfn : C.prog.funcs[f]? = some fn) (hbody : fn.body.isSome = true) (hname : (fn.name == "runtime.NumGoroutine") = false)
    (witness : ∃ (w : World) (tape : Tape) (i : Input), w.os = os ∧ (w.forCall tape i).Shaped C.prog ∧ i.vars = [] ∧ Input.okWide C.prog (w.forCall tape i) .any w.heap.size f i ∧
      ((s.pre enc C.prog fn [] false (w.forCall tape i).memory i.args ∧ X (w.forCall tape i).memory i.args) ∧ sizedMet enc C.prog fn (OpenSpec.ofChange s) false (w.forCall tape i).memory i.args) ∧ ({} : Assume).holds C.prog (lone (Frame.enter C.prog f i.args .normal) [] (w.forCall tape i)))
    (hl : laidOutB C.prog = true) (hks : All2 (KT C.prog) fn.params.toList ks) (hread : ∀ t ∈ fn.params.toList, C.prog.readableRec t = true ∧ t < C.prog.types.size)
    (hres : fn.resultTypes = #[tb]) (htb : C.prog.underlying tb = some .bool) (hs : LawSpec s ks.length)
    (hcon : (Con.det ks [.snap .bool] pre (fun _ => (true, ()))).holds C.prog G f) (hpre : ∀ x, KS.rng ks x → KS.wf ks x → pre x) :
    ReturnsInHanded {} C os f .any (fun w args => (s.pre enc C.prog fn [] false w args ∧ X w args) ∧ sizedMet enc C.prog fn (OpenSpec.ofChange s) false w args) (s.post enc C.prog fn false true false false) := by
  refine returnsInHanded_of_calls own started noInit witness ?_
  intro w tape i _ _ _ hok hp hholds
  obtain ⟨_, _, _, fn', hfn', _, _, _, _, hval⟩ := hok
  have e : fn' = fn := Option.some.inj (hfn'.symm.trans hfn)
  subst e
  obtain ⟨⟨⟨ds, gs, before, hw, hc⟩, hx⟩, hz⟩ := hp
  have hx := hX _ (w.forCall tape i) _ (by rfl) hx
  have hW := DataW.Whole.of_heap (w' := w.forCall tape i) (by rfl) hw
  have hwt := hz.weights hw
  generalize w.forCall tape i = W at *
  have hlt : ∀ p ∈ before, p.block < W.heap.size := fun p hp => hW.lt p hp
  obtain ⟨p, q, hA, hV, rfl, hfz, hnd⟩ := id hW
  rw [hs.1] at hV
  obtain ⟨rfl, rfl⟩ := trodVars_none hV
  have hvt : (OpenSpec.ofChange s).bare.plain.varTypes C.prog = [] := by
    show (s.plain.varTypes C.prog) = []
    unfold DataSpec.varTypes
    show s.vars.filterMap _ = []
    rw [hs.1]; rfl
  simp only [List.append_nil] at hwt hW hlt
  rw [hvt, List.append_nil, List.all_eq_true] at hwt
  obtain ⟨x, h1, h2, h3⟩ := args_rep hks hA (fun j t v ht hv => hval j t v (by simpa using ht) (by simpa using hv)) (fun m hm => by simpa using hwt m hm)
  have hspec := hcon W (fun b => b < W.heap.size) (fun _ h => h) x i.args.toList h1 (hG W _ hx) (hpre x h2 h1.wf)
  obtain ⟨code, hcode⟩ := Option.isSome_iff_exists.1 hbody
  have hcalls : Calls C.prog f i.args W fun e w' => ∃ v, e = .returned v ∧ Grows W w' ∧ ResRep W w' (fun b => b < W.heap.size) [.snap .bool] (true, ()) v := by
    rcases hspec with ⟨v, w', g1, _⟩ | ⟨_, g2⟩
    · have := callFunc_run hfn hcode hname i.args.toList.toArray W
      rw [this] at g1; cases g1
    · simpa using g2
  refine hcalls.mono fun e W' ⟨v, he, hg, hr⟩ => ?_
  subst he
  refine ChangeSpec.post_blind ?_
  have hv : v = .bool true := by
    obtain ⟨vs, obs, hv, _, v0, vr, o1, o2, rfl, _, ⟨_, h5⟩, rfl, _⟩ := hr
    rw [hv]
    exact (List.cons.inj h5).1
  subst hv
  have hds := hs.2 H ds h3
  have hb : Below W.heap.size W W' := ⟨hg.os, hg.tape, hg.output, hg.size, hg.keep⟩
  refine ⟨ds, [], p, [], p, [], hW, ?_, ?_, ?_, World.keptBut_mono (fun p hp => ⟨hp, .inr (.inl hp)⟩) (hb.frame (· ∈ p)), fun h => by cases h⟩
  · rw [List.append_nil, hds, hres]
    exact trodAll_mk1 (RowKit.shut_bool htb true)
  · rw [List.append_nil, hds]
    exact args_keep hl hg hread hA hlt (fun x hx => by simpa using hlt x hx)
  · rw [List.append_nil, hds, hs.1]
    rfl
end
end Go.Lift

set_option linter.unusedVariables false
set_option linter.unusedSimpArgs false
namespace Go.Lift
theorem rngI {n : Int} (h : K.rng (.int .i64) n) : I64 n := by
  have h' : (decide (IntKind.i64.min ≤ n) && decide (n ≤ IntKind.i64.max)) = true := h
  simp [IntKind.min, IntKind.max, IntKind.bits, IntKind.signed] at h'
  unfold I64; omega
theorem rngSe {s : Se} (h : K.rng kSea s) : SeaOk s := ⟨rngL h.1, fun x hx => rngI (h.2.1 x hx), fun x hx => rngI (h.2.2.1 x hx), rngL h.2.2.2.1, rngI h.2.2.2.2.1, rngI h.2.2.2.2.2⟩
end Go.Lift

namespace Go.Proofs.YtplhligfkbgllaaGreatDoor
open Go.Lift
theorem own : ownKnob Tryz.checked.prog.godebug = none := by kernel_rfl
theorem laidOut : laidOutB Tryz.checked.prog = true := by kernel_rfl
theorem gFr : Tryz.prog.globalNamed "tarn/geom.frames" = some 4 := by kernel_rfl
theorem tFr : (Tryz.prog.globals[4]?).map (·.type) = some 171 := by kernel_rfl
theorem gFc : Tryz.prog.globalNamed "tarn/cube.frames" = some 0 := by kernel_rfl
theorem tFc : (Tryz.prog.globals[0]?).map (·.type) = some 112 := by kernel_rfl
def laidL : List (String × DataW Unit) := [("tarn/cube.frames", Rows.laid_tarn_cube_frames), ("tarn/geom.frames", Rows.laid_tarn_geom_frames)]
theorem door_met (os : Os) (args : Array Value) : laidMetH Tryz.prog laidL ((World.doorLaid Tryz.prog 400 os).forCall (fun _ _ => 0) ⟨#[], args, []⟩).memory :=
  laidMetH_of_parts3 (fuel := 8) (laidMet_of_run' 8 (by kernel_rfl) (by kernel_rfl)) (by kernel_rfl) (by kernel_rfl)
theorem laid_globs (w : World) (h : laidMetH Tryz.prog laidL w) : GW RbG w (fun b => b < w.heap.size) := by
  rw [MakeChecks.laidMetH_plain _ _ _ (by kernel_rfl)] at h
  intro g k x hg
  unfold RbG at hg
  split at hg
  · cases hg
    exact laid_rep h (n := "tarn/cube.frames") List.mem_cons_self gFc tFc (ktB_sound 9 112 _ (by kernel_rfl)) (by kernel_rfl)
  · cases hg
    exact laid_rep h (n := "tarn/geom.frames") (List.mem_cons_of_mem _ List.mem_cons_self) gFr tFr (ktB_sound 9 171 _ (by kernel_rfl)) (by kernel_rfl)
  · cases hg
end Go.Proofs.YtplhligfkbgllaaGreatDoor

set_option linter.unusedVariables false
set_option linter.unusedSimpArgs false
set_option linter.unusedSectionVars false
namespace Go.Lift
theorem swp_comm {xs : List Int} {i j : Nat} (h : i ≠ j) : swp xs i j = swp xs j i := by
  unfold swp; rw [List.set_comm _ _ h]
theorem wrap_half {x : Int} (h0 : 0 ≤ x) (h1 : x < 9223372036854775808) : IntKind.i64.wrap ((IntKind.u64.wrap (IntKind.i64.wrap x)).fdiv (2 ^ Min.min (Int.toNat 1) IntKind.u64.bits)) = x / 2 := by
  rw [wi_small (x := x) (by omega) (by omega)]
  have : IntKind.u64.wrap x = x := by rw [IntKind.wrap_u64]; exact Int.emod_eq_of_lt h0 (by omega)
  rw [this, show (2 : Int) ^ Min.min (Int.toNat 1) IntKind.u64.bits = 2 from rfl, Int.fdiv_eq_ediv_of_nonneg _ (by decide), wi_small (by omega) (by omega)]
theorem cmpB_neg (bed : List Nat) (x y : Int) : cmpB bed x y < 0 ↔ keyB bed x < keyB bed y := by
  unfold cmpB keyB okeyB ordF cmpI
  split
  · constructor <;> intro _ <;> omega
  · split <;> constructor <;> intro _ <;> omega
theorem BedOk.perm {bed : List Nat} {xs ys : List Int} (h : BedOk bed xs) (hp : ys.Perm xs) : BedOk bed ys := ⟨h.1, fun x hx => h.2.1 x (hp.mem_iff.1 hx), by rw [hp.length_eq]; exact h.2.2⟩
theorem at0_mem {xs : List Int} {p : Nat} (h : p < xs.length) : at0 xs p ∈ xs := getD_mem h 0
theorem BedOk.cmp {bed : List Nat} {xs : List Int} (h : BedOk bed xs) {p q : Nat} (hp : p < xs.length) (hq : q < xs.length) : WCmp (at0 xs p) (at0 xs q) (some bed) := ⟨bed, rfl, h.2.1 _ (at0_mem hp), h.2.1 _ (at0_mem hq), h.1⟩
theorem sgm_le {kf : Int → Int} {xs : List Int} {a b i j : Nat} (h : Sgm kf xs a b) (h1 : a ≤ i) (h2 : i ≤ j) (h3 : j < b) : kf (at0 xs i) ≤ kf (at0 xs j) := by
  by_cases e : i = j
  · subst e; exact Int.le_refl _
  · exact h i j h1 (by omega) h3
section
variable {kf : Int → Int}
def InsI (kf : Int → Int) (ys : List Int) (a i j : Nat) : Prop := (∀ p q, a ≤ p → p < q → q ≤ i → p ≠ j → q ≠ j → kf (at0 ys p) ≤ kf (at0 ys q)) ∧ ∀ q, j < q → q ≤ i → kf (at0 ys j) ≤ kf (at0 ys q)
theorem InsI.start {ys : List Int} {a i : Nat} (h : Sgm kf ys a i) : InsI kf ys a i i := ⟨fun p q h1 h2 h3 h4 h5 => h p q h1 h2 (by omega), fun q h1 h2 => by omega⟩
theorem InsI.done {ys : List Int} {a i j : Nat} (h : InsI kf ys a i j) (hj : j ≤ i) (he : j = a ∨ (a < j ∧ kf (at0 ys (j - 1)) ≤ kf (at0 ys j))) : Sgm kf ys a (i + 1) := by
  intro p q h1 h2 h3
  by_cases e1 : p = j
  · subst e1; exact h.2 q h2 (by omega)
  by_cases e2 : q = j
  · subst e2
    rcases he with he | ⟨g1, g2⟩
    · omega
    by_cases e3 : p = q - 1
    · subst e3; exact g2
    · exact Int.le_trans (h.1 p (q - 1) h1 (by omega) (by omega) (by omega) (by omega)) g2
  exact h.1 p q h1 h2 (by omega) e1 e2
theorem InsI.step {ys : List Int} {a i j : Nat} (h : InsI kf ys a i (j + 1)) (hj : j + 1 ≤ i) (ha : a ≤ j) (hi : i < ys.length) (hlt : kf (at0 ys (j + 1)) < kf (at0 ys j)) : InsI kf (swp ys (j + 1) j) a i j := by
  refine ⟨fun p q h1 h2 h3 h4 h5 => ?_, fun q h1 h2 => ?_⟩
  · rw [swp_at (by omega) (by omega), swp_at (by omega) (by omega), if_neg h4, if_neg h5]
    by_cases e1 : p = j + 1
    · subst e1
      rw [if_pos rfl, if_neg (by omega)]
      exact h.1 j q ha (by omega) h3 (by omega) (by omega)
    rw [if_neg e1]
    by_cases e2 : q = j + 1
    · subst e2
      rw [if_pos rfl]
      exact h.1 p j h1 (by omega) (by omega) e1 (by omega)
    rw [if_neg e2]
    exact h.1 p q h1 h2 h3 e1 e2
  · rw [swp_at (by omega) (by omega), swp_at (by omega) (by omega), if_pos rfl, if_neg (by omega)]
    by_cases e2 : q = j + 1
    · subst e2; rw [if_pos rfl]; omega
    rw [if_neg e2]
    exact h.2 q (by omega) h2
def ShU (xs ys : List Int) (a k : Nat) : Prop := ∀ p, at0 ys p = if a ≤ p ∧ p < k then at0 xs (p + 1) else if p = k then at0 xs a else at0 xs p
theorem ShU.start (xs : List Int) (a : Nat) : ShU xs xs a a := fun p => by
  rw [if_neg (by omega)]; split
  · rename_i e; rw [e]
  · rfl
theorem ShU.step {xs ys : List Int} {a k : Nat} (h : ShU xs ys a k) (hl : ys.length = xs.length) (ha : a ≤ k) (hk : k + 1 < xs.length) : ShU xs (swp ys (k + 1) k) a (k + 1) := fun p => by
  rw [swp_at (by omega) (by omega), h (k + 1), h k, h p, if_neg (show ¬ (a ≤ k + 1 ∧ k + 1 < k) by omega), if_neg (show ¬ k + 1 = k by omega), if_neg (show ¬ (a ≤ k ∧ k < k) by omega), if_pos (show k = k from rfl)]
  by_cases e1 : p = k
  · subst e1; rw [if_pos rfl, if_pos (by omega)]
  rw [if_neg e1]
  by_cases e2 : p = k + 1
  · subst e2; rw [if_pos rfl, if_neg (by omega), if_pos rfl]
  rw [if_neg e2, if_neg e2]
  by_cases e3 : a ≤ p ∧ p < k
  · rw [if_pos e3, if_pos (by omega)]
  · rw [if_neg e3, if_neg (by omega), if_neg (by omega)]
theorem ShU.done {xs ys : List Int} {a i b : Nat} (h : ShU xs ys a (i - 1)) (h1 : a + 1 ≤ i) (h2 : i ≤ b) (hs : Sgm kf xs (a + 1) b) (hlt : ∀ p, a + 1 ≤ p → p < i → kf (at0 xs p) < kf (at0 xs a)) (hge : ∀ p, i ≤ p → p < b → kf (at0 xs a) ≤ kf (at0 xs p)) : Sgm kf ys a b := by
  intro p q g1 g2 g3
  rw [h p, h q]
  by_cases e1 : a ≤ p ∧ p < i - 1
  · rw [if_pos e1]
    by_cases e2 : a ≤ q ∧ q < i - 1
    · rw [if_pos e2]; exact hs _ _ (by omega) (by omega) (by omega)
    rw [if_neg e2]
    by_cases e3 : q = i - 1
    · rw [if_pos e3]; have := hlt (p + 1) (by omega) (by omega); omega
    rw [if_neg e3]
    have := hlt (p + 1) (by omega) (by omega)
    have := hge q (by omega) g3
    omega
  rw [if_neg e1, if_neg (show ¬ (a ≤ q ∧ q < i - 1) by omega)]
  rw [if_neg (show ¬ q = i - 1 by omega)]
  by_cases e3 : p = i - 1
  · rw [if_pos e3]; exact hge q (by omega) g3
  rw [if_neg e3]
  exact hs _ _ (by omega) g2 g3
def ShD (xs ys : List Int) (m k : Nat) : Prop := ∀ p, at0 ys p = if k < p ∧ p ≤ m then at0 xs (p - 1) else if p = k then at0 xs m else at0 xs p
theorem ShD.start (xs : List Int) (m : Nat) : ShD xs xs m m := fun p => by
  rw [if_neg (by omega)]; split
  · rename_i e; rw [e]
  · rfl
theorem ShD.step {xs ys : List Int} {m k : Nat} (h : ShD xs ys m (k + 1)) (hl : ys.length = xs.length) (ha : k + 1 ≤ m) (hk : m < xs.length) : ShD xs (swp ys (k + 1) k) m k := fun p => by
  rw [swp_at (by omega) (by omega), h (k + 1), h k, h p, if_neg (show ¬ (k + 1 < k + 1 ∧ k + 1 ≤ m) by omega), if_pos (show k + 1 = k + 1 from rfl), if_neg (show ¬ (k + 1 < k ∧ k ≤ m) by omega), if_neg (show ¬ k = k + 1 by omega)]
  by_cases e1 : p = k
  · subst e1; rw [if_pos rfl, if_neg (by omega), if_pos rfl]
  rw [if_neg e1, if_neg e1]
  by_cases e2 : p = k + 1
  · subst e2; rw [if_pos rfl, if_pos (by omega)]; congr 1
  rw [if_neg e2]
  by_cases e3 : k + 1 < p ∧ p ≤ m
  · rw [if_pos e3, if_pos (by omega)]
  · rw [if_neg e3, if_neg (by omega), if_neg (by omega)]
theorem ShD.done {xs ys : List Int} {a m i : Nat} (h : ShD xs ys m i) (h1 : a ≤ i) (h2 : i ≤ m) (hs : Sgm kf xs a m) (hle : ∀ p, a ≤ p → p < i → kf (at0 xs p) ≤ kf (at0 xs m)) (hgt : ∀ p, i ≤ p → p < m → kf (at0 xs m) < kf (at0 xs p)) : Sgm kf ys a (m + 1) := by
  intro p q g1 g2 g3
  rw [h p, h q]
  by_cases e1 : i < p ∧ p ≤ m
  · rw [if_pos e1, if_pos (by omega)]
    exact hs _ _ (by omega) (by omega) (by omega)
  rw [if_neg e1]
  by_cases e2 : i < q ∧ q ≤ m
  · rw [if_pos e2]
    by_cases e3 : p = i
    · rw [if_pos e3]; have := hgt (q - 1) (by omega) (by omega); omega
    rw [if_neg e3]
    by_cases e4 : p = q - 1
    · omega
    exact hs _ _ g1 (by omega) (by omega)
  rw [if_neg e2, if_neg (show ¬ p = i by omega)]
  by_cases e3 : q = i
  · rw [if_pos e3]; exact hle p g1 (by omega)
  · rw [if_neg e3]; exact hs _ _ g1 g2 (by omega)
def Crs (kf : Int → Int) (ys : List Int) (a m b : Nat) : Prop := ∀ i j, a ≤ i → i < m → m ≤ j → j < b → kf (at0 ys i) ≤ kf (at0 ys j)
theorem Crs.left {ys zs : List Int} {a m b : Nat} (h : Crs kf ys a m b) (r : Rr kf a m ys zs) : Crs kf zs a m b := fun i j h1 h2 h3 h4 => by
  rw [r.out j (by omega)]
  exact r.ins (fun v => kf v ≤ kf (at0 ys j)) (fun i h1 h2 => h i j h1 h2 h3 h4) i h1 h2
theorem Crs.right {ys zs : List Int} {a m b : Nat} (h : Crs kf ys a m b) (r : Rr kf m b ys zs) : Crs kf zs a m b := fun i j h1 h2 h3 h4 => by
  rw [r.out i (by omega)]
  exact r.ins (fun v => kf (at0 ys i) ≤ kf v) (fun j h3 h4 => h i j h1 h2 h3 h4) j h3 h4
theorem Crs.join {ys : List Int} {a m b : Nat} (h : Crs kf ys a m b) (h1 : Sgm kf ys a m) (h2 : Sgm kf ys m b) : Sgm kf ys a b := fun i j g1 g2 g3 => by
  by_cases e1 : j < m
  · exact h1 i j g1 g2 e1
  by_cases e2 : m ≤ i
  · exact h2 i j e2 g2 g3
  exact h i j g1 (by omega) (by omega) g3
structure Cutd (kf : Int → Int) (xs : List Int) (a m b s e : Nat) : Prop where
  le : a ≤ s ∧ s ≤ m ∧ m ≤ e ∧ e ≤ b
  low : ∀ i j, a ≤ i → i < s → e ≤ j → j < b → kf (at0 xs i) ≤ kf (at0 xs j)
  high : ∀ i j, s ≤ i → i < m → m ≤ j → j < e → kf (at0 xs j) < kf (at0 xs i)
theorem cutd {xs : List Int} {a m b s0 r0 s mid : Nat} (hm : mid = (a + b) / 2) (h1 : a < m) (h2 : m < b) (h0 : (m > mid ∧ s0 + b = mid + m ∧ r0 = mid) ∨ (m ≤ mid ∧ s0 = a ∧ r0 = m)) (hs1 : Sgm kf xs a m) (hs2 : Sgm kf xs m b) (g1 : s0 ≤ s) (g2 : s ≤ r0)
    (lo : ∀ q, s0 ≤ q → q < s → kf (at0 xs q) ≤ kf (at0 xs (mid + m - 1 - q))) (hi : ∀ q, s ≤ q → q < r0 → kf (at0 xs (mid + m - 1 - q)) < kf (at0 xs q)) : Cutd kf xs a m b s (mid + m - s) where
  le := by omega
  low i j i1 i2 j1 j2 := by
    by_cases e : s = s0
    · omega
    · have hl := lo (s - 1) (by omega) (by omega)
      have a1 : kf (at0 xs i) ≤ kf (at0 xs (s - 1)) := by
        by_cases q : i = s - 1
        · subst q; omega
        · exact hs1 _ _ i1 (by omega) (by omega)
      have e2 : mid + m - 1 - (s - 1) = mid + m - s := by omega
      rw [e2] at hl
      have a2 : kf (at0 xs (mid + m - s)) ≤ kf (at0 xs j) := by
        by_cases q : j = mid + m - s
        · subst q; omega
        · exact hs2 _ _ (by omega) (by omega) j2
      omega
  high i j i1 i2 j1 j2 := by
    by_cases e : s = r0
    · omega
    · have hl := hi s (by omega) (by omega)
      have a1 : kf (at0 xs s) ≤ kf (at0 xs i) := by
        by_cases q : i = s
        · subst q; omega
        · exact hs1 _ _ (by omega) (by omega) i2
      have a2 : kf (at0 xs j) ≤ kf (at0 xs (mid + m - 1 - s)) := by
        by_cases q : j = mid + m - 1 - s
        · subst q; omega
        · exact hs2 _ _ j1 (by omega) (by omega)
      omega
structure Trnd (kf : Int → Int) (xs ys : List Int) (a m b s e mid : Nat) : Prop where
  rr : Rr kf a b xs ys
  g1 : Sgm kf ys a s
  g2 : Sgm kf ys s mid
  g3 : Sgm kf ys mid e
  g4 : Sgm kf ys e b
  cr : Crs kf ys a mid b
theorem trnd {xs ys : List Int} {a m b s mid : Nat} (c : Cutd kf xs a m b s (mid + m - s)) (hm : mid = (a + b) / 2) (h1 : a < m) (h2 : m < b) (h3 : b ≤ xs.length) (hs1 : Sgm kf xs a m) (hs2 : Sgm kf xs m b) (hp : ys.Perm xs) (he : ys = remap xs (rotI s m (mid + m - s))) : Trnd kf xs ys a m b s (mid + m - s) mid := by
  obtain ⟨⟨l1, l2, l3, l4⟩, clo, chi⟩ := c
  have rr := rot_rr (kf := kf) l2 l3 (by omega) hp he chi
  have key : ∀ p, p < b → at0 ys p = at0 xs (rotI s m (mid + m - s) p) := fun p hp => by rw [he, remap_at (by omega)]
  have k1 : ∀ p, p < s → rotI s m (mid + m - s) p = p := fun p hp => by unfold rotI; rw [if_neg (by omega), if_neg (by omega)]
  have k2 : ∀ p, s ≤ p → p < mid → rotI s m (mid + m - s) p = m + (p - s) := fun p h1 h2 => by unfold rotI; rw [if_pos (by omega)]
  have k3 : ∀ p, mid ≤ p → p < mid + m - s → rotI s m (mid + m - s) p = s + (p - mid) := fun p h1 h2 => by unfold rotI; rw [if_neg (by omega), if_pos (by omega)]; omega
  have k4 : ∀ p, mid + m - s ≤ p → rotI s m (mid + m - s) p = p := fun p h1 => by unfold rotI; rw [if_neg (by omega), if_neg (by omega)]
  have ms : s ≤ mid := by omega
  refine ⟨rr.wide l1 l4, fun i j i1 i2 i3 => ?_, fun i j i1 i2 i3 => ?_, fun i j i1 i2 i3 => ?_, fun i j i1 i2 i3 => ?_, fun i j i1 i2 i3 i4 => ?_⟩
  · rw [key i (by omega), key j (by omega), k1 i (by omega), k1 j (by omega)]
    exact hs1 i j i1 i2 (by omega)
  · rw [key i (by omega), key j (by omega), k2 i (by omega) (by omega), k2 j (by omega) (by omega)]
    exact hs2 _ _ (by omega) (by omega) (by omega)
  · rw [key i (by omega), key j (by omega), k3 i (by omega) (by omega), k3 j (by omega) (by omega)]
    exact hs1 _ _ (by omega) (by omega) (by omega)
  · rw [key i (by omega), key j (by omega), k4 i (by omega), k4 j (by omega)]
    exact hs2 _ _ (by omega) (by omega) (by omega)
  · rw [key i (by omega), key j (by omega)]
    by_cases e1 : i < s
    · rw [k1 i e1]
      by_cases e2 : j < mid + m - s
      · rw [k3 j i3 e2]; exact hs1 _ _ i1 (by omega) (by omega)
      · rw [k4 j (by omega)]; exact clo i j i1 e1 (by omega) i4
    · rw [k2 i (by omega) i2]
      by_cases e2 : j < mid + m - s
      · rw [k3 j i3 e2]
        have := chi (s + (j - mid)) (m + (i - s)) (by omega) (by omega) (by omega) (by omega)
        omega
      · rw [k4 j (by omega)]; exact hs2 _ _ (by omega) (by omega) (by omega)
theorem cutd_same {xs : List Int} {s m e : Nat} (h1 : s ≤ m) (h2 : m ≤ e) (h : s = m ∨ m = e) : remap xs (rotI s m e) = xs := remap_id fun p _ => by
  unfold rotI; (repeat' split) <;> omega
end
end Go.Lift

set_option linter.unusedVariables false
set_option linter.unusedSimpArgs false
set_option linter.unusedSectionVars false
namespace Go.Lift
theorem leB_iff {bed : List Nat} {x y : Int} : leB bed x y = true ↔ keyB bed x < keyB bed y ∨ (keyB bed x = keyB bed y ∧ x ≤ y) := by unfold leB; rw [decide_eq_true_eq]
theorem leB_trans (bed : List Nat) : ∀ a b c : Int, leB bed a b = true → leB bed b c = true → leB bed a c = true := fun a b c h1 h2 => by
  rw [leB_iff] at *; omega
theorem leB_total (bed : List Nat) : ∀ a b : Int, (leB bed a b || leB bed b a) = true := fun a b => by
  rw [Bool.or_eq_true, leB_iff, leB_iff]; omega
theorem leB_anti {bed : List Nat} {a b : Int} (h1 : leB bed a b = true) (h2 : leB bed b a = true) : a = b := by
  rw [leB_iff] at *; omega
theorem seg_len (a b : Int) : (seg a b).length = b.toNat - a.toNat := by unfold seg; rw [List.length_map, List.length_range']
theorem seg_mem {a b x : Int} (h : x ∈ seg a b) : (a.toNat : Int) ≤ x ∧ x < b.toNat := by
  unfold seg at h
  obtain ⟨n, hn, rfl⟩ := List.mem_map.1 h
  rw [List.mem_range'_1] at hn
  omega
theorem ordSeg_perm (bed : List Nat) (a b : Int) : (ordSegL bed a b).Perm (seg a b) := List.mergeSort_perm _ _
theorem ordSeg_sorted (bed : List Nat) (a b : Int) : List.Pairwise (fun x y => leB bed x y = true) (ordSegL bed a b) := List.pairwise_mergeSort (leB_trans bed) (leB_total bed) _
theorem ordSeg_mem {bed : List Nat} {a b x : Int} (h : x ∈ ordSegL bed a b) : (a.toNat : Int) ≤ x ∧ x < b.toNat := seg_mem ((ordSeg_perm bed a b).mem_iff.1 h)
theorem ordSeg_len (bed : List Nat) (a b : Int) : (ordSegL bed a b).length = b.toNat - a.toNat := (ordSeg_perm bed a b).length_eq.trans (seg_len a b)
theorem ordSeg_unique {bed : List Nat} {a b : Int} {l : List Int} (hp : l.Perm (seg a b)) (hs : List.Pairwise (fun x y => leB bed x y = true) l) : l = ordSegL bed a b :=
  List.Perm.eq_of_pairwise (fun x y _ _ h1 h2 => leB_anti h1 h2) hs (ordSeg_sorted bed a b) (hp.trans (ordSeg_perm bed a b).symm)
theorem drop_at {l : List Int} {i : Nat} (h : i < l.length) : l.drop i = at0 l i :: l.drop (i + 1) := by
  rw [at0_get h]; exact List.drop_eq_getElem_cons h
theorem seg_at {n : Nat} {l : List Int} (hl : l.length = n) (h : ∀ j, j < n → at0 l j = j) : l = seg 0 n := by
  refine at0_ext (by rw [seg_len, hl]; simp) fun i hi => ?_
  rw [h i (by omega)]
  unfold at0 seg
  rw [List.getD_eq_getElem?_getD, List.getElem?_map, List.getElem?_range' (by simp; omega)]
  simp
theorem stable_ord {bed : List Nat} {xs ys : List Int} {n : Nat} (hx : xs = seg 0 n) (h1 : Rr (keyB bed) 0 xs.length xs ys) (h2 : Sgm (keyB bed) ys 0 xs.length) : ys = ordSegL bed 0 n := by
  subst hx
  have st : Stb (keyB bed) (seg 0 n) := fun i j hij hj _ => by
    have e : ∀ k, k < n → at0 (seg 0 n) k = k := fun k hk => by
      unfold at0 seg
      rw [List.getD_eq_getElem?_getD, List.getElem?_map, List.getElem?_range' (by omega)]
      simp
    rw [seg_len] at hj
    rw [e i (by omega), e j (by omega)]
    omega
  refine ordSeg_unique h1.perm (List.pairwise_iff_getElem.2 fun i j hi hj hij => ?_)
  rw [← at0_get hi, ← at0_get hj, leB_iff]
  have a := h2 i j (by omega) hij (by rw [← h1.len]; exact hj)
  have b := h1.st st i j hij hj
  omega
end Go.Lift

set_option linter.unusedVariables false
set_option linter.unusedSimpArgs false
set_option linter.unusedSectionVars false
namespace Go.Lift
section
variable {n : Int} {ar : Ar} (A : ArOk n ar)
include A
variable {f : List Int} {gv : Nat → List Int} {all : List Int} (hL : LaidTo n ar f gv (4 * cellsI n) all)
  (hg : ∀ c : Nat, (c : Int) < cellsI n → ∀ o : Nat, o < 4 → 0 ≤ (gv c).getD o 0 ∧ (0 < (gv c).getD o 0 → 0 < outN ar f c o))
include hL hg
end
end Go.Lift

set_option linter.unusedVariables false
set_option linter.unusedSimpArgs false
set_option linter.unusedSectionVars false
namespace Go.Lift
section
variable {n : Int} {ar : Ar} (A : ArOk n ar) {f : List Int} {gv : Nat → List Int} {all : List Int} (hL : LaidTo n ar f gv (4 * cellsI n) all)
  (hg : ∀ c : Nat, (c : Int) < cellsI n → ∀ o : Nat, o < 4 → 0 ≤ (gv c).getD o 0 ∧ (0 < (gv c).getD o 0 → 0 < outN ar f c o))
include A hL hg
end
section
variable {n : Int} {ar : Ar} (A : ArOk n ar) {f : List Int} {gv : Nat → List Int} {all : List Int} (hL : LaidTo n ar f gv (4 * cellsI n) all)
  (hg : ∀ c : Nat, (c : Int) < cellsI n → ∀ o : Nat, o < 4 → 0 ≤ (gv c).getD o 0 ∧ (0 < (gv c).getD o 0 → 0 < outN ar f c o))
include A hL hg
end
end Go.Lift

set_option linter.unusedVariables false
set_option linter.unusedSimpArgs false
set_option linter.unusedSectionVars false
namespace Go.Lift
section
variable {N : Int} {w F : List Int} (lw : (w.length : Int) = cellsI N) (lF : (F.length : Int) = (netE N).1.length) (hw : ∀ x ∈ w, 0 ≤ x) (hF : ∀ x ∈ F, FlowOk x = true)
include lw lF hw hF
section
variable {h : List Int} (lh : (h.length : Int) = cellsI N) (hh : ∀ x ∈ h, 0 ≤ x ∧ x ≤ 9223372036854775807) (hok : ∀ c : Nat, (c : Int) < cellsI N → okTo (w.getD c 0) (outsN (nAround (some (netG N))) F c) (outsN (nAround (some (netG N))) F c).length)
include lh hh hok
end
end
end Go.Lift

set_option linter.unusedVariables false
set_option linter.unusedSimpArgs false
set_option linter.unusedSectionVars false
namespace Go.Lift
theorem keptF_cons (s x : Int) (l : List Int) : keptF s (x :: l) = if x < 0 ∨ x > 4503599627370496 - s then false else keptF (s + x) l := rfl
theorem cmpI_lt {x y : Int} : cmpI x y < 0 ↔ x < y := by
  unfold cmpI; split
  · exact ⟨fun _ => by assumption, fun _ => by decide⟩
  · split
    · exact ⟨fun h => by omega, fun h => by omega⟩
    · exact ⟨fun h => by omega, fun h => by omega⟩
theorem cmpI_gt {x y : Int} : cmpI x y > 0 ↔ x > y := by
  unfold cmpI; split
  · exact ⟨fun h => by omega, fun h => by omega⟩
  · split
    · exact ⟨fun _ => by assumption, fun _ => by decide⟩
    · exact ⟨fun h => by omega, fun h => by omega⟩
theorem cmpI_eq {x y : Int} : cmpI x y = 0 ↔ x = y := by
  unfold cmpI; split
  · exact ⟨fun h => by omega, fun h => by omega⟩
  · split
    · exact ⟨fun h => by omega, fun h => by omega⟩
    · exact ⟨fun h => by omega, fun h => by omega⟩
theorem stepB_skip {bed : List Nat} {best to : Int} (h : 0 ≤ best) (h2 : okeyB bed best < okeyB bed to ∨ (okeyB bed to = okeyB bed best ∧ best ≤ to)) : stepB bed best to = best := by
  unfold stepB; rw [if_neg (by omega)]
theorem stepB_take {bed : List Nat} {best to : Int} (h2 : best < 0 ∨ okeyB bed to < okeyB bed best ∨ (okeyB bed to = okeyB bed best ∧ to ≤ best)) : stepB bed best to = to := by
  unfold stepB
  by_cases q : best < 0 ∨ okeyB bed to < okeyB bed best ∨ (okeyB bed to = okeyB bed best ∧ to < best)
  · rw [if_pos q]
  · rw [if_neg q]; omega
theorem downF_bad {cells n : Int} {bed : List Nat} {c : Int} (h : (bed.length : Int) ≠ cells ∨ c < 0 ∨ (bed.length : Int) ≤ c) : downF true cells n bed c = -1 := by
  unfold downF; rw [if_pos (.inr h)]
theorem downF_ok {cells n : Int} {bed : List Nat} {c : Int} (h1 : (bed.length : Int) = cells) (h2 : 0 ≤ c) (h3 : c < (bed.length : Int)) : downF true cells n bed c = downN n bed c := by
  unfold downF; rw [if_neg (by simp; omega)]
theorem beside_place {n c : Int} {k : Nat} (hp : placeOk n c = true) (hk : k < 4) : 0 ≤ (besideI n c k).1 ∧ (besideI n c k).1 < cellsI n := by
  obtain ⟨b1, _⟩ := beside_back (besideOk_iff.2 ⟨hp, (by omega : (0 : Int) ≤ k), (by omega : (k : Int) < 4)⟩)
  exact place_cells b1
theorem bestN_facts {n c : Int} {bed : List Nat} (hp : placeOk n c = true) : ∀ k : Nat, k ≤ 4 → -1 ≤ bestN n bed c k ∧ bestN n bed c k < cellsI n ∧ (0 < k → ∃ j, j < k ∧ bestN n bed c k = (besideI n c j).1) ∧
    ∀ j, j < k → okeyB bed (bestN n bed c k) < okeyB bed (besideI n c j).1 ∨ (okeyB bed (bestN n bed c k) = okeyB bed (besideI n c j).1 ∧ bestN n bed c k ≤ (besideI n c j).1)
  | 0, _ => ⟨by show (-1 : Int) ≤ -1; decide, by have := place_cells hp; show (-1 : Int) < _; omega, fun h => by omega, fun j h => by omega⟩
  | k + 1, hk => by
    obtain ⟨i1, i2, i3, i4⟩ := bestN_facts (bed := bed) hp k (by omega)
    obtain ⟨t1, t2⟩ := beside_place hp (k := k) (by omega)
    have e : bestN n bed c (k + 1) = stepB bed (bestN n bed c k) (besideI n c k).1 := rfl
    by_cases q : bestN n bed c k < 0 ∨ okeyB bed (besideI n c k).1 < okeyB bed (bestN n bed c k) ∨ (okeyB bed (besideI n c k).1 = okeyB bed (bestN n bed c k) ∧ (besideI n c k).1 ≤ bestN n bed c k)
    · rw [e, stepB_take q]
      refine ⟨by omega, t2, fun _ => ⟨k, by omega, rfl⟩, fun j hj => ?_⟩
      by_cases ej : j = k
      · subst ej; exact .inr ⟨rfl, Int.le_refl _⟩
      · have := i4 j (by omega)
        rcases q with q | q | q
        · obtain ⟨j0, g1, g2⟩ := i3 (by omega)
          have := (beside_place hp (k := j0) (by omega)).1
          omega
        · omega
        · omega
    · rw [e, stepB_skip (by omega) (by omega)]
      refine ⟨i1, i2, fun _ => ?_, fun j hj => ?_⟩
      · rcases Nat.eq_zero_or_pos k with z | z
        · subst z
          exact absurd (.inl (show (-1 : Int) < 0 by decide)) q
        · obtain ⟨j0, g1, g2⟩ := i3 z
          exact ⟨j0, by omega, g2⟩
      · by_cases ej : j = k
        · subst ej; omega
        · exact i4 j (by omega)
theorem best4 {n c : Int} {bed : List Nat} (hp : placeOk n c = true) : 0 ≤ bestN n bed c 4 ∧ bestN n bed c 4 < cellsI n := by
  obtain ⟨i1, i2, i3, i4⟩ := bestN_facts (bed := bed) hp 4 (by omega)
  obtain ⟨j0, g1, g2⟩ := i3 (by omega)
  have := (beside_place hp (k := j0) (by omega)).1
  exact ⟨by omega, i2⟩
theorem downN_rng {n c : Int} {bed : List Nat} (hp : placeOk n c = true) : downN n bed c = -1 ∨ (0 ≤ downN n bed c ∧ downN n bed c < cellsI n ∧ okeyB bed (downN n bed c) < okeyB bed c ∧ downN n bed c = bestN n bed c 4) := by
  unfold downN
  split
  · have := best4 (bed := bed) hp
    exact .inr ⟨this.1, this.2, by assumption, rfl⟩
  · exact .inl rfl
theorem edge_to {n c : Int} {o : Nat} (ok : besideOk n c o = true) : ∃ q : Nat, q < (netE n).1.length ∧ (nAround (some (netG n)) c o).1 = q ∧ (nEdge (some (netG n)) q).1 + (nEdge (some (netG n)) q).2.2.1 = c + (besideI n c o).1 := by
  obtain ⟨q, hq, h1, h2, h3⟩ := around_net ok
  refine ⟨q, hq, by rw [h1], ?_⟩
  have e : nEdge (some (netG n)) q = (netE n).1.getD q dEd := by
    unfold nEdge
    show (if (0 : Int) ≤ q ∧ (q : Int) < ((netE n).1.length : Nat) then (netE n).1.getD (q : Int).toNat dEd else dEd) = _
    rw [if_pos ⟨by omega, by omega⟩, Int.toNat_natCast]
  rw [e, List.getD_eq_getElem?_getD]
  rcases h3 with ⟨_, h3⟩ | ⟨_, h3⟩ <;> rw [h3]
  · rfl
  · show (besideI n c o).1 + c = _
    omega
end Go.Lift
