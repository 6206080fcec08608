/- A part of the proof of SaveSumCard: an own lifter of code into plain terms, and plain laws. -/
import Derived.Recover
import Derived.Test.YtomopcclgokehaaGreatDoorProg
import Derived.LaidMore
import Derived.MakeChecks
import Derived.Test.YtomopcclgokehaaGreatDoorRows
import Derived.ProofKit
import Derived.SevenTiedAt
import Derived.Test.YtomopcclgokehaaGreatDoorPtC
set_option linter.unusedVariables false
set_option linter.unusedSimpArgs false
set_option linter.unusedSectionVars false
set_option linter.unusedVariables false
set_option linter.unusedSimpArgs false
namespace Go.Lift
def hintH : List (Nat × LH) → Nat → Option LH := hintN
def kVec : K := .pair (.flt .f64) (.pair (.flt .f64) (.flt .f64))
def kSea : K := .pair (.slice (.flt .f64)) (.pair (.slice (.int .i64)) (.pair (.slice (.int .i64)) (.pair (.slice (.flt .f64)) (.pair (.int .i64) (.int .i64)))))
abbrev Se := List Nat × List Int × List Int × List Nat × Int × Int
def framesL : List (List (List Int)) := [[[1, 0, 0], [0, 1, 0], [0, 0, 1]], [[0, 1, 0], [-1, 0, 0], [0, 0, 1]], [[-1, 0, 0], [0, -1, 0], [0, 0, 1]], [[0, -1, 0], [1, 0, 0], [0, 0, 1]], [[0, 0, 1], [0, 1, 0], [-1, 0, 0]], [[0, 0, -1], [0, 1, 0], [1, 0, 0]]]
def U8 (n : Int) : Prop := 0 ≤ n ∧ n < 256
def goodC (n : Int) : Bool := decide (1 ≤ n) && decide (n ≤ 32)
def goodCR (n : Int) : Bool × Unit := r1 (goodC n)
def cellsI (n : Int) : Int := if goodC n then 6 * n * n else 0
def cellsR (n : Int) : Int × Unit := r1 (cellsI n)
def placeOk (n c : Int) : Bool := decide (0 ≤ c) && decide (c < cellsI n)
def placeR4 (n c : Int) : Int × Int × Int × Bool × Unit := if placeOk n c then (c / (n * n), c % n, c / n % n, true, ()) else (0, 0, 0, false, ())
def ofI (n : Int) : Nat := FloatKind.f64.nearest n
def II (a b : Int) : Prop := I64 a ∧ I64 b
def floorF (x : Nat) : Nat := Ieee.double.write ((Ieee.double.read x).integral .down)
def floorR (x : Nat) : Nat × Unit := r1 (floorF x)
def WNum (x : Nat) : Prop := W64 x ∧ isN x = false
def halfR : Nat := 4602678819172646912
def wholeI (x : Nat) : Int := ((Ieee.double.read x).toInt .zero).getD 0
def nearI (x : Nat) : Int := if fcmp .gtr (Ieee.double.order (subQ x (floorF x)) halfR) || (fcmp .eql (Ieee.double.order (subQ x (floorF x)) halfR) && (wholeI (floorF x) % 2 == 1)) then wholeI (floorF x) + 1 else wholeI (floorF x)
def nearR (x : Nat) : Int × Unit := r1 (nearI x)
def two63 : Nat := 4890909195324358656
def WNear (x : Nat) : Prop := x < two63
def roundI (x : Nat) : Int × Bool := if rungOf x < two63 then ((if sgn x && decide (rungOf x ≠ 0) then IntKind.i64.wrap (0 - IntKind.i64.wrap (nearI (rungOf x))) else IntKind.i64.wrap (nearI (rungOf x))), true) else if x = two63 + 9223372036854775808 then (-9223372036854775808, true) else (0, false)
def roundR (x : Nat) : Int × Bool × Unit := ((roundI x).1, (roundI x).2, ())
def ratioQ (a b : Int) : Nat := divQF (ofI a) (ofI b)
def ratioR (a b : Int) : Nat × Unit := r1 (ratioQ a b)
def WRatio (a b : Int) : Prop := I64 a ∧ 1 ≤ b ∧ I64 b
def axisF (m : Int) (v c : Nat) : Nat := if m = 1 then canonF v else if m = -1 then canonF (negF v) else c
def frameI (f : Int) (j i : Nat) : Int := List.getD (List.getD (framesL.getD f.toNat (K.arr 3 (K.arr 3 (K.int .i64))).dflt) j (K.arr 3 (K.int .i64)).dflt) i 0
def axisP (f : Int) (s t : Nat) (i : Nat) : Nat := axisF (frameI f 2 i) t (axisF (frameI f 1 i) s (axisF (frameI f 0 i) oneR 0))
def pointQ (f : Int) (s t : Nat) : Nat × Nat × Nat := unitV (axisP f s t 0, axisP f s t 1, axisP f s t 2)
def pointR (f : Int) (s t : Nat) : (Nat × Nat × Nat) × Unit := r1 (pointQ f s t)
def WPoint (f : Int) (s t : Nat) : Prop := 0 ≤ f ∧ f ≤ 5 ∧ W64 s ∧ W64 t
def cornerOk (n f i j : Int) : Bool := goodC n && decide (0 ≤ f) && decide (f ≤ 5) && decide (0 ≤ i) && decide (i ≤ n) && decide (0 ≤ j) && decide (j ≤ n)
def cornerQ (n f i j : Int) : Nat × Nat × Nat := pointQ f (ratioQ (2 * i - n) n) (ratioQ (2 * j - n) n)
def cornerR (n f i j : Int) : (Nat × Nat × Nat) × Bool × Unit := if cornerOk n f i j then (cornerQ n f i j, true, ()) else ((0, 0, 0), false, ())
def IIII (a b c d : Int) : Prop := I64 a ∧ I64 b ∧ I64 c ∧ I64 d
def cornersR (n c : Int) : List (Nat × Nat × Nat) × Bool × Unit :=
  if placeOk n c then ([cornerQ n (c / (n * n)) (c % n) (c / n % n), cornerQ n (c / (n * n)) (c % n + 1) (c / n % n), cornerQ n (c / (n * n)) (c % n + 1) (c / n % n + 1), cornerQ n (c / (n * n)) (c % n) (c / n % n + 1)], true, ())
  else ([(0, 0, 0), (0, 0, 0), (0, 0, 0), (0, 0, 0)], false, ())
def cornerC (n c : Int) (i j : Int) : Nat × Nat × Nat := cornerQ n (c / (n * n)) (c % n + i) (c / n % n + j)
def unitArea : Nat := 4742290407621132288
def spanQ (n c : Int) : Nat := lengthQ (crossV (minusV (cornerC n c 1 1) (cornerC n c 0 0)) (minusV (cornerC n c 0 1) (cornerC n c 1 0)))
def areaI (n c : Int) : Int := if placeOk n c then imax (roundI (mulQ (mulQ (spanQ n c) halfR) unitArea)).1 1 else 0
def areaR (n c : Int) : Int × Unit := r1 (areaI n c)
def betweenF (x lo hi : Nat) : Bool := (fcmp .geq (Ieee.double.order x lo) && fcmp .leq (Ieee.double.order x hi)) && decide (x ≠ 9223372036854775808)
def betweenR (x lo hi : Nat) : Bool × Unit := r1 (betweenF x lo hi)
def firstI {α : Type} (p : α → Bool) : Int → List α → Int
  | _, [] => -1
  | i, x :: xs => if p x then i else firstI p (i + 1) xs
def floatsI (l : List Nat) (m : Nat) : Int := firstI (fun x => !betweenF x (negF m) m) 0 l
def floatsR (l : List Nat) (m : Nat) : Int × Unit := r1 (floatsI l m)
def quantaN : Int → Int → List Int → Int
  | _, _, [] => -1
  | i, s, x :: xs => if x < 0 ∨ x > 4503599627370496 - s then i else quantaN (i + 1) (s + x) xs
def quantaR (l : List Int) (s : Int) : Int × Unit := r1 (quantaN 0 s l)
def WQuanta (l : List Int) (s : Int) : Prop := (∀ x ∈ l, I64 x) ∧ 0 ≤ s ∧ s ≤ 4503599627370496
def checkI (n : Int) (s : Se) : Int × Int :=
  if cellsI n = 0 then (0, 10)
  else if (s.1.length : Int) ≠ cellsI n then (0, 12)
  else if (s.2.1.length : Int) ≠ cellsI n then (1, 12)
  else if (s.2.2.1.length : Int) ≠ cellsI n then (2, 12)
  else if (s.2.2.2.1.length : Int) ≠ 2 * cellsI n then (3, 12)
  else if 0 ≤ floatsI s.1 4697254411347427328 then (floatsI s.1 4697254411347427328, 13)
  else if s.2.2.2.2.1 < 0 ∨ s.2.2.2.2.1 > 4503599627370496 then (0, 17)
  else if 0 ≤ quantaN 0 s.2.2.2.2.1 s.2.1 then (quantaN 0 s.2.2.2.2.1 s.2.1, 14)
  else if 0 ≤ quantaN 0 0 s.2.2.1 then (quantaN 0 0 s.2.2.1, 15)
  else if 0 ≤ floatsI s.2.2.2.1 4652218415073722368 then (floatsI s.2.2.2.1 4652218415073722368, 16)
  else if s.2.2.2.2.2 < 0 ∨ s.2.2.2.2.2 > 4611686018427387904 then (0, 1)
  else (0, 0)
def checkR (n : Int) (s : Se) : Int × Int × Unit := ((checkI n s).1, (checkI n s).2, ())
def SeaOk (s : Se) : Prop := WL s.1 ∧ (∀ x ∈ s.2.1, I64 x) ∧ (∀ x ∈ s.2.2.1, I64 x) ∧ WL s.2.2.2.1 ∧ I64 s.2.2.2.2.1 ∧ I64 s.2.2.2.2.2
def WCheck (n : Int) (s : Se) : Prop := I64 n ∧ SeaOk s
def BLs (b : List Int) : Prop := ∀ x ∈ b, U8 x
end Go.Lift

set_option linter.unusedVariables false
set_option linter.unusedSimpArgs false
namespace Go.Lift
open Ieee
theorem cutZ_le (way : Toward) (hw : way = .down ∨ way = .zero) (n d : Nat) : way.cut false n d ≤ n := by
  rcases hw with rfl | rfl <;> simp only [Toward.cut, Bool.false_and, Bool.toNat_false, Nat.add_zero] <;> exact Nat.div_le_self _ _
theorem pow_split (m a b : Nat) : m * 2 ^ (a + b) = m * 2 ^ a * 2 ^ b := by rw [Nat.pow_add, Nat.mul_assoc]
theorem val_up {r : Nat} (u : Nat) (hu : u = 1074) (hp : 0 ≤ placeOf r) : valR r = magOf r * 2 ^ (placeOf r).toNat * 2 ^ u := by
  have e : (placeOf r + 1074).toNat = (placeOf r).toNat + u := by omega
  unfold valR
  rw [e, pow_split]
theorem le_pow {a b u : Nat} (h : a * 2 ^ u ≤ b * 2 ^ u) : a ≤ b := Nat.le_of_mul_le_mul_right h (Nat.two_pow_pos u)
theorem val_63 : valR two63 = 9223372036854775808 * 2 ^ U74 := by decide +kernel
theorem whole_le {way : Toward} (hw : way = .down ∨ way = .zero) {r : Nat} (h : r ≤ two63) : way.cut false (magOf r <<< (placeOf r).toNat) (-placeOf r).toNat ≤ 9223372036854775808 := by
  have hv := (valR_le (r := r) (r' := two63)).2 h
  refine Nat.le_trans (cutZ_le way hw _ _) ?_
  rw [Nat.shiftLeft_eq]
  by_cases hp : 0 ≤ placeOf r
  · rw [val_up U74 rfl hp, val_63] at hv
    exact le_pow hv
  · have e : (placeOf r).toNat = 0 := by omega
    rw [e, Nat.pow_zero, Nat.mul_one]
    unfold magOf
    split
    · unfold bin at *; omega
    · have := Nat.mod_lt r (show 0 < bin by decide); unfold bin at *; omega
theorem floor_word {a : Nat} (h : a < two63) : ∃ k, k ≤ 9223372036854775808 ∧ floorF a = double.word false (rnd k 0) := by
  have hs : rungOf a = a := rung_lo (by unfold two63 at h; omega)
  have hg : sgn a = false := (small_sgn (by unfold two63 at h; omega)).1
  have hi : rungOf a < infR := by rw [hs]; unfold two63 at h; unfold infR; omega
  refine ⟨Toward.down.cut false (magOf a <<< (placeOf a).toNat) (-placeOf a).toNat, whole_le (.inl rfl) (Nat.le_of_lt h), ?_⟩
  unfold floorF
  rw [read_num hi, hs, hg]
  show double.nearest false _ 0 = _
  rw [nearest_eq]
theorem rnd63 {k : Nat} (h : k ≤ 9223372036854775808) : rnd k 0 ≤ two63 := by
  have := rnd_mono' 0 h
  have e : rnd 9223372036854775808 0 = two63 := by decide +kernel
  omega
theorem floor_read {a : Nat} (h : a < two63) : ∃ r, r ≤ two63 ∧ floorF a = double.word false r ∧ double.read (floorF a) = .number false (magOf r) (placeOf r) := by
  obtain ⟨k, hk, e⟩ := floor_word h
  have hr := rnd63 hk
  refine ⟨rnd k 0, hr, e, ?_⟩
  rw [e]
  obtain ⟨w1, w2, w3⟩ := word_parts (s := false) (r := rnd k 0) (by unfold two63 at hr; unfold sw; omega)
  rw [read_num (by rw [w1]; unfold two63 at hr; unfold infR; omega), w1, w2]
theorem whole_rng {a : Nat} (h : a < two63) : (double.read (floorF a)).toInt .zero = some (wholeI (floorF a)) ∧ 0 ≤ wholeI (floorF a) ∧ wholeI (floorF a) ≤ 9223372036854775808 := by
  obtain ⟨r, hr, _, e⟩ := floor_read h
  unfold wholeI
  rw [e]
  have := whole_le (way := .zero) (.inr rfl) hr
  refine ⟨rfl, ?_⟩
  show 0 ≤ signed false (Toward.zero.cut false (magOf r <<< (placeOf r).toNat) (-placeOf r).toNat) 0 ∧ signed false (Toward.zero.cut false (magOf r <<< (placeOf r).toNat) (-placeOf r).toNat) 0 ≤ 9223372036854775808
  generalize Toward.zero.cut false (magOf r <<< (placeOf r).toNat) (-placeOf r).toNat = q at this
  have e : signed false q 0 = (q : Int) := by unfold signed; rw [if_neg (by decide), Nat.shiftLeft_zero]
  rw [e]
  omega
theorem floor_int {a : Nat} (h : a < two63) {n : Int} (hn : F2I .f64 (floorF a) .u64 n) : n = wholeI (floorF a) := by
  obtain ⟨h1, h2, h3⟩ := whole_rng h
  unfold F2I at hn
  rw [show (FloatKind.f64.format.read (floorF a)).toInt .zero = some (wholeI (floorF a)) from h1] at hn
  dsimp only at hn
  rwa [if_pos ⟨by show (0 : Int) ≤ _; exact h2, by show _ ≤ (18446744073709551615 : Int); omega⟩] at hn
theorem lss_rung (a : Nat) : fcmp .lss (double.order (rungOf a) two63) = decide (rungOf a < two63) := by
  have hs := small_sgn (rung_lt a)
  have ht := small_sgn (show two63 < 9223372036854775808 by decide)
  by_cases hn : isN (rungOf a) = true
  · rw [order_nan (.inl hn)]
    unfold isN at hn; rw [hs.2.1] at hn
    have := of_decide_eq_true hn
    symm; show decide _ = false
    rw [decide_eq_false_iff_not]; unfold two63; unfold infR at this; omega
  · rw [order_eq (by simpa using hn) (by decide)]
    unfold keyOf'
    rw [hs.1, ht.1, hs.2.1, ht.2.1]
    simp only [Bool.false_eq_true, if_false, fcmp]
    by_cases h : rungOf a < two63
    · rw [decide_eq_true h, Std.compare_eq_lt.2 (by omega)]; rfl
    · rw [decide_eq_false h]
      rcases Nat.lt_or_eq_of_le (Nat.le_of_not_lt h) with g | g
      · rw [Std.compare_eq_gt.2 (by omega)]; rfl
      · rw [← g, Std.compare_self]; rfl
theorem lss_nought {a : Nat} (hn : isN a = false) : fcmp .lss (double.order a 0) = (sgn a && decide (rungOf a ≠ 0)) := by
  rw [order_eq hn (by decide)]
  have e : keyOf' 0 = 0 := by decide
  rw [e]
  unfold keyOf'
  simp only [fcmp]
  cases hs : sgn a
  · simp only [Bool.false_eq_true, if_false, Bool.false_and]
    rcases Nat.eq_zero_or_pos (rungOf a) with g | g
    · rw [g]; rfl
    · rw [Std.compare_eq_gt.2 (by omega)]; rfl
  · simp only [if_true, Bool.true_and]
    rcases Nat.eq_zero_or_pos (rungOf a) with g | g
    · rw [g]; rfl
    · rw [Std.compare_eq_lt.2 (by omega), decide_eq_true (by omega)]; rfl
theorem eql_min {a : Nat} (h : W64 a) : fcmp .eql (double.order a 14114281232179134464) = decide (a = 14114281232179134464) := by
  by_cases hn : isN a = true
  · rw [order_nan (.inl hn)]
    symm; show decide _ = false
    rw [decide_eq_false_iff_not]; rintro rfl; revert hn; decide
  · have hn : isN a = false := by simpa using hn
    rw [order_eq hn (by decide)]
    have e : keyOf' 14114281232179134464 = -4890909195324358656 := by decide
    rw [e]
    simp only [fcmp]
    by_cases g : a = 14114281232179134464
    · subst g; decide
    · rw [decide_eq_false g]
      have : keyOf' a ≠ -4890909195324358656 := by
        intro hk
        unfold keyOf' at hk
        split at hk
        · rename_i hs
          have := (sgn_iff h).1 hs
          rw [rung_hi h this] at hk
          omega
        · omega
      rcases Int.lt_or_gt_of_ne this with q | q
      · rw [Std.compare_eq_lt.2 q]; rfl
      · rw [Std.compare_eq_gt.2 q]; rfl
end Go.Lift

set_option linter.unusedVariables false
set_option linter.unusedSimpArgs false
namespace Go.Lift
open Ieee
theorem goodC_iff {n : Int} : goodC n = true ↔ 1 ≤ n ∧ n ≤ 32 := by unfold goodC; simp
theorem sq_bd {n : Int} (h1 : 1 ≤ n) (h2 : n ≤ 32) : 1 ≤ n * n ∧ n * n ≤ 1024 := by
  have a := Int.mul_le_mul h1 h1 (by omega) (by omega)
  have b := Int.mul_le_mul h2 h2 (by omega) (by omega)
  omega
theorem cells_good {n : Int} (h : goodC n = true) : cellsI n = 6 * (n * n) := by
  unfold cellsI; rw [if_pos h, Int.mul_assoc]
theorem cells_bad {n : Int} (h : goodC n = false) : cellsI n = 0 := by
  unfold cellsI; rw [if_neg (by rw [h]; decide)]
theorem cells_wrap {a : Int} (h : goodC a = true) : IntKind.i64.wrap (IntKind.i64.wrap (6 * a) * a) = cellsI a := by
  obtain ⟨h1, h2⟩ := goodC_iff.1 h
  have := sq_bd h1 h2
  rw [cells_good h, wi (x := 6 * a) ⟨by omega, by omega⟩, Int.mul_assoc, wi ⟨by omega, by omega⟩]
theorem place_facts {n c : Int} (h : placeOk n c = true) : 1 ≤ n ∧ n ≤ 32 ∧ 0 ≤ c ∧ c < 6 * (n * n) ∧ 1 ≤ n * n ∧ n * n ≤ 1024 := by
  unfold placeOk at h
  simp only [Bool.and_eq_true, decide_eq_true_eq] at h
  cases hg : goodC n with
  | false => rw [cells_bad hg] at h; omega
  | true =>
    rw [cells_good hg] at h
    obtain ⟨h1, h2⟩ := goodC_iff.1 hg
    have := sq_bd h1 h2
    omega
theorem place_rng {n c : Int} (h : placeOk n c = true) : 0 ≤ c / (n * n) ∧ c / (n * n) ≤ 5 ∧ 0 ≤ c % n ∧ c % n < n ∧ 0 ≤ c / n % n ∧ c / n % n < n := by
  obtain ⟨h1, h2, h3, h4, h5, h6⟩ := place_facts h
  refine ⟨Int.ediv_nonneg h3 (by omega), ?_, Int.emod_nonneg _ (by omega), Int.emod_lt_of_pos _ (by omega), Int.emod_nonneg _ (by omega), Int.emod_lt_of_pos _ (by omega)⟩
  have := Int.ediv_lt_of_lt_mul (a := c) (b := 6) (c := n * n) (by omega) h4
  omega
theorem sub_congr_order {x y b : Nat} (h : FRes .f64 (FloatKind.f64.format.sub x y) b) (z : Nat) : double.order b z = double.order (subQ x y) z := order_quiet (fsub h).1 z
theorem wu1 {x : Int} (h : 0 ≤ x ∧ x < 18446744073709551616) : IntKind.u64.wrap x = x := wu x h
theorem ofI_word {n : Int} (h : 1 ≤ n) (h2 : I64 n) : ofI n = double.word false (rnd n.toNat 0) ∧ bin ≤ rnd n.toNat 0 ∧ rnd n.toNat 0 < infR := by
  have e : ofI n = double.word false (rnd n.toNat 0) := by
    show double.nearest (decide (n < 0)) n.natAbs 0 = _
    rw [nearest_eq, decide_eq_false (by omega)]
    congr 2; omega
  refine ⟨e, ?_, ?_⟩
  · have := rnd_mono' (m := 1) (m' := n.toNat) 0 (by omega)
    have e : bin ≤ rnd 1 0 := by decide +kernel
    omega
  · have := rnd_mono' (m := n.toNat) (m' := 9223372036854775808) 0 (by unfold I64 at h2; omega)
    have e : rnd 9223372036854775808 0 < infR := by decide +kernel
    omega
theorem ofI_fin (n : Int) (h2 : I64 n) : rungOf (ofI n) < infR ∧ W64 (ofI n) := by
  have e : ofI n = double.word (decide (n < 0)) (rnd n.natAbs 0) := by
    show double.nearest (decide (n < 0)) n.natAbs 0 = _
    rw [nearest_eq]
  have := rnd_mono' (m := n.natAbs) (m' := 9223372036854775808) 0 (by unfold I64 at h2; omega)
  have e2 : rnd 9223372036854775808 0 < infR := by decide +kernel
  obtain ⟨w1, w2, w3⟩ := word_parts (s := decide (n < 0)) (r := rnd n.natAbs 0) (by unfold infR at e2; unfold sw; omega)
  rw [e]
  exact ⟨by rw [w1]; omega, w3⟩
theorem div_some {x y : Nat} (hx : rungOf x < infR) (hy : rungOf y < infR) (h0 : rungOf y ≠ 0) : double.div x y = some (divQF x y) := by
  unfold divQF
  have : ∃ d, double.div x y = some d := by
    unfold Format.div
    rw [read_num hx, read_num hy]
    unfold Datum.quotient
    dsimp only
    rw [if_neg (by
      intro h
      have : valR (rungOf y) = 0 := by unfold valR; rw [h, Nat.zero_mul]
      exact h0 (valR_eq_zero.1 this))]
    exact ⟨_, rfl⟩
  obtain ⟨d, e⟩ := this
  rw [e]; rfl
theorem div_exact {x y b : Nat} (hx : rungOf x < infR) (hy : rungOf y < infR) (h0 : rungOf y ≠ 0) (h : FRes .f64 (FloatKind.f64.format.div x y) b) : b = divQF x y := by
  unfold FRes at h
  rw [show FloatKind.f64.format.div x y = some (divQF x y) from div_some hx hy h0] at h
  exact h
theorem ofI_pos {n : Int} (h : 1 ≤ n) (h2 : I64 n) : rungOf (ofI n) < infR ∧ rungOf (ofI n) ≠ 0 := by
  obtain ⟨e, e1, e2⟩ := ofI_word h h2
  obtain ⟨w1, w2, w3⟩ := word_parts (s := false) (r := rnd n.toNat 0) (by unfold infR at e2; unfold sw; omega)
  rw [e, w1]
  exact ⟨e2, by unfold bin at e1; omega⟩
theorem div_ofI {a b : Int} (ha : I64 a) (hb : 1 ≤ b) (hb2 : I64 b) {r : Nat} (h : FRes .f64 (FloatKind.f64.format.div (ofI a) (ofI b)) r) : r = divQF (ofI a) (ofI b) :=
  div_exact (ofI_fin a ha).1 (ofI_pos hb hb2).1 (ofI_pos hb hb2).2 h
theorem br_axis {m : Int} {v c : Nat} {P : Nat → Prop} (h : P (axisF m v c)) {X Y Z : Prop} (hx : P (canonF v) → X) (hy : P (canonF (negF v)) → Y) (hz : P c → Z) : Br (m == 1) X (Br (m == -1) Y Z) := by
  unfold axisF at h
  refine Br.intro (fun e => ?_) fun e => ?_
  · have e : m = 1 := by simpa using e
    rw [if_pos e] at h; exact hx h
  · have e : ¬ m = 1 := by simpa using e
    rw [if_neg e] at h
    refine Br.intro (fun g => ?_) fun g => ?_
    · have g : m = -1 := by simpa using g
      rw [if_pos g] at h; exact hy h
    · have g : ¬ m = -1 := by simpa using g
      rw [if_neg g] at h; exact hz h
theorem axisF_w {m : Int} {v c : Nat} (hv : W64 v) (hc : W64 c) : W64 (axisF m v c) := by
  unfold axisF
  split
  · exact canonF_w hv
  · split
    · exact canonF_w (negF_w hv)
    · exact hc
theorem axisP_w (f : Int) {s t : Nat} (hs : W64 s) (ht : W64 t) (i : Nat) : W64 (axisP f s t i) :=
  axisF_w ht (axisF_w hs (axisF_w (by unfold W64 oneR; decide) (by unfold W64; decide)))
theorem ratio_wrap {n i : Int} (h1 : 1 ≤ n) (h2 : n ≤ 32) (h3 : 0 ≤ i) (h4 : i ≤ n) : IntKind.i64.wrap (IntKind.i64.wrap (2 * i) - n) = 2 * i - n ∧ WRatio (2 * i - n) n := by
  rw [wi (x := 2 * i) ⟨by omega, by omega⟩, wi ⟨by omega, by omega⟩]
  exact ⟨rfl, ⟨by omega, by omega⟩, h1, by omega, by omega⟩
theorem wv0 : WV (0, 0, 0) := ⟨by unfold W64; decide, by unfold W64; decide, by unfold W64; decide⟩
theorem unitV_w (a : Nat × Nat × Nat) : WV (unitV a) := by
  unfold unitV
  split
  · exact canonV_w (divQF_w _ _) (divQF_w _ _) (divQF_w _ _)
  · exact wv0
theorem crossV_w (a b : Nat × Nat × Nat) : WV (crossV a b) := canonV_w (subQ_w _ _) (subQ_w _ _) (subQ_w _ _)
theorem cornerQ_w (n f i j : Int) : WV (cornerQ n f i j) := unitV_w _
theorem corners_w (n c : Int) (i : Nat) : WV ((cornersR n c).1.getD i (0, 0, 0)) := by
  unfold cornersR
  split
  · match i with
    | 0 => exact cornerQ_w _ _ _ _
    | 1 => exact cornerQ_w _ _ _ _
    | 2 => exact cornerQ_w _ _ _ _
    | 3 => exact cornerQ_w _ _ _ _
    | k + 4 => exact wv0
  · match i with
    | 0 => exact wv0
    | 1 => exact wv0
    | 2 => exact wv0
    | 3 => exact wv0
    | k + 4 => exact wv0
theorem span_l {l : List (Nat × Nat × Nat)} {a b c d z : Nat × Nat × Nat} (h : l = [a, b, c, d]) : (lengthR (crossR (minusR (l.getD (Int.toNat (2 : Int)) z) (l.getD (Int.toNat (0 : Int)) z)).fst (minusR (l.getD (Int.toNat (3 : Int)) z) (l.getD (Int.toNat (1 : Int)) z)).fst).fst).fst = lengthQ (crossV (minusV c a) (minusV d b)) := by
  subst h; rfl
theorem corners_len (n c : Int) : (cornersR n c).1.length = 4 := by unfold cornersR; split <;> rfl
theorem corners_ok (n c : Int) : (cornersR n c).2.1 = placeOk n c := by
  unfold cornersR
  cases h : placeOk n c
  · rfl
  · rfl
theorem round_quiet {x : Nat} (h : W64 x) : roundI x = roundI (quietF x) := by
  unfold quietF
  split
  · rename_i e
    have q : roundI QN = (0, false) := by decide +kernel
    rw [q]
    unfold roundI
    have : infR < rungOf x := by unfold isN at e; exact of_decide_eq_true e
    rw [if_neg (by unfold two63; unfold infR at this; omega), if_neg (by
      rintro rfl
      revert this; decide)]
  · rfl
theorem drop_step {α : Type} {l : List α} {i : Nat} (h : i < l.length) (d : α) : l.drop i = l.getD i d :: l.drop (i + 1) := by
  rw [List.drop_eq_getElem_cons h, List.getD_eq_getElem?_getD, List.getElem?_eq_getElem h]; rfl
theorem wi_succ {i : Nat} {n : Nat} (h : i < n) (hn : n ≤ 9223372036854775807) : IntKind.i64.wrap ((i : Int) + 1) = ((i + 1 : Nat) : Int) := by
  rw [wi ⟨by omega, by omega⟩]; omega
theorem getD_mem {α : Type} {l : List α} {i : Nat} (h : i < l.length) (d : α) : l.getD i d ∈ l := by
  rw [List.getD_eq_getElem?_getD, List.getElem?_eq_getElem h]; exact List.getElem_mem h
theorem quantaN_cons (i s x : Int) (xs : List Int) : quantaN i s (x :: xs) = if x < 0 ∨ x > 4503599627370496 - s then i else quantaN (i + 1) (s + x) xs := rfl
theorem firstI_cons {α : Type} (p : α → Bool) (i : Int) (x : α) (xs : List α) : firstI p i (x :: xs) = if p x then i else firstI p (i + 1) xs := rfl
theorem cells_rng (n : Int) : 0 ≤ cellsI n ∧ cellsI n ≤ 6144 := by
  cases hg : goodC n with
  | false => rw [cells_bad hg]; omega
  | true => rw [cells_good hg]; have := sq_bd (goodC_iff.1 hg).1 (goodC_iff.1 hg).2; omega
theorem bne_int {a b : Int} : ((a != b) = true → a ≠ b) ∧ ((a != b) = false → a = b) := ⟨fun h => by simpa using h, fun h => by simpa using h⟩
end Go.Lift

set_option linter.unusedVariables false
set_option linter.unusedSimpArgs false
namespace Go.Lift
theorem take_step {α : Type} {l : List α} {i : Nat} (h : i < l.length) (d : α) : l.take (i + 1) = l.take i ++ [l.getD i d] := by
  rw [List.take_add_one, List.getD_eq_getElem?_getD, List.getElem?_eq_getElem h]; rfl
theorem byteOf_id {a : Int} (ha : U8 a) : byteOf a = a := by unfold byteOf; unfold U8 at ha; omega
theorem map_byteOf : ∀ {xs : List Int}, BLs xs → xs.map byteOf = xs
  | [], _ => rfl
  | x :: xs, hx => by
    rw [List.map_cons, byteOf_id (hx x List.mem_cons_self), map_byteOf fun z hz => hx z (List.mem_cons_of_mem _ hz)]
theorem set_mid {α : Type} {P R : List α} {i : Nat} (h : P.length = i) (z v : α) : (P ++ z :: R).set i v = P ++ v :: R := by
  subst h
  rw [List.set_append_right _ _ (Nat.le_refl _), Nat.sub_self]; rfl
theorem wrap_u8 (x : Int) : IntKind.u8.wrap x = x % 256 := by simp [IntKind.wrap, IntKind.bits, IntKind.signed]
end Go.Lift

set_option linter.unusedVariables false
set_option linter.unusedSimpArgs false
namespace Go.Lift
theorem check_ok {n : Int} {s : Se} (h : (checkI n s).2 = 0) : goodC n = true ∧ (s.1.length : Int) = cellsI n ∧ (s.2.1.length : Int) = cellsI n ∧ (s.2.2.1.length : Int) = cellsI n ∧ (s.2.2.2.1.length : Int) = 2 * cellsI n := by
  unfold checkI at h
  split at h
  · exact absurd h (by decide)
  rename_i h0
  split at h
  · exact absurd h (by decide)
  rename_i h1
  split at h
  · exact absurd h (by decide)
  rename_i h2
  split at h
  · exact absurd h (by decide)
  rename_i h3
  split at h
  · exact absurd h (by decide)
  rename_i h4
  refine ⟨?_, by omega, by omega, by omega, by omega⟩
  cases hg : goodC n with
  | true => rfl
  | false => exact absurd (cells_bad hg) h0
theorem wrap_rng (x : Int) : I64 (IntKind.i64.wrap x) := by
  unfold I64
  have : IntKind.i64.wrap x = x % 18446744073709551616 ∨ IntKind.i64.wrap x = x % 18446744073709551616 - 18446744073709551616 ∧ 9223372036854775808 ≤ x % 18446744073709551616 := by
    show (if (true && decide (x % 18446744073709551616 ≥ 9223372036854775808)) = true then x % 18446744073709551616 - 18446744073709551616 else x % 18446744073709551616) = _ ∨ (if (true && decide (x % 18446744073709551616 ≥ 9223372036854775808)) = true then x % 18446744073709551616 - 18446744073709551616 else x % 18446744073709551616) = _ ∧ _
    by_cases q : 9223372036854775808 ≤ x % 18446744073709551616
    · rw [if_pos (by simpa using q)]; exact .inr ⟨rfl, q⟩
    · rw [if_neg (by simpa using q)]; exact .inl rfl
  have h2 : ¬ 9223372036854775808 ≤ x % 18446744073709551616 → IntKind.i64.wrap x = x % 18446744073709551616 := fun q => this.resolve_right fun r => q r.2
  by_cases q : 9223372036854775808 ≤ x % 18446744073709551616
  · have h3 : IntKind.i64.wrap x = x % 18446744073709551616 - 18446744073709551616 := by
      show (if (true && decide (x % 18446744073709551616 ≥ 9223372036854775808)) = true then x % 18446744073709551616 - 18446744073709551616 else x % 18446744073709551616) = _
      rw [if_pos (by simpa using q)]
    omega
  · have := h2 q
    omega
theorem range_map_succ {α : Type} (g : Nat → α) (k : Nat) : (List.range (k + 1)).map g = (List.range k).map g ++ [g k] := by
  rw [List.range_succ, List.map_append]; rfl
end Go.Lift

set_option linter.unusedVariables false
set_option linter.unusedSimpArgs false
namespace Go.Lift
end Go.Lift

set_option linter.unusedVariables false
set_option linter.unusedSimpArgs false
namespace Go.Lift
open Ieee
end Go.Lift

set_option linter.unusedVariables false
set_option linter.unusedSimpArgs false
namespace Go.Lift
open Ieee
end Go.Lift

set_option linter.unusedVariables false
set_option linter.unusedSimpArgs false
namespace Go.Lift
open Ieee
end Go.Lift

set_option linter.unusedVariables false
set_option linter.unusedSimpArgs false
namespace Go.Lift
end Go.Lift

set_option linter.unusedVariables false
set_option linter.unusedSimpArgs false
namespace Go.Lift
open Ieee
end Go.Lift

set_option linter.unusedVariables false
set_option linter.unusedSimpArgs false
namespace Go.Lift
def kWay : K := .arr 3 (.int .i64)
def kFrame : K := .arr 3 (.arr 3 (.int .i64))
def kEdge : K := .pair (.int .i64) (.pair (.int .i64) (.pair (.int .i64) (.int .i64)))
def kNums : K := .map (.pair (.int .i64) (.int .i64)) (.int .i64)
def kGrid : K := .pair (.int .i64) (.pair (.slice kEdge) (.pair kNums (.pair (.slice (.arr 2 (.int .i64))) (.pair (.slice (.int .i64)) (.pair (.slice (.flt .f64)) (.slice (.flt .f64)))))))
abbrev Ed := Int × Int × Int × Int
abbrev Nm := List ((Int × Int) × Int)
abbrev Gr := Int × List Ed × Nm × List (List Int) × List Int × List Nat × List Nat
def Bd (m : Int) (w : List Int) : Prop := ∀ i : Nat, -m ≤ w.getD i 0 ∧ w.getD i 0 ≤ m
def timesW (w : List Int) (k : Int) : List Int := [k * w.getD 0 0, k * w.getD 1 0, k * w.getD 2 0]
def timesR (w : List Int) (k : Int) : List Int × Unit := r1 (timesW w k)
def WTimes (w : List Int) (k : Int) : Prop := Bd 4096 w ∧ -4096 ≤ k ∧ k ≤ 4096
def plusW (w v : List Int) : List Int := [w.getD 0 0 + v.getD 0 0, w.getD 1 0 + v.getD 1 0, w.getD 2 0 + v.getD 2 0]
def plusR (w v : List Int) : List Int × Unit := r1 (plusW w v)
def WPlus (w v : List Int) : Prop := Bd 1099511627776 w ∧ Bd 1099511627776 v
def dotW (w v : List Int) : Int := w.getD 0 0 * v.getD 0 0 + w.getD 1 0 * v.getD 1 0 + w.getD 2 0 * v.getD 2 0
def dotR (w v : List Int) : Int × Unit := r1 (dotW w v)
def WDot (w v : List Int) : Prop := Bd 1048576 w ∧ Bd 1048576 v
def wayAt (f : List (List Int)) (i : Nat) : List Int := f.getD i [0, 0, 0]
def outF (f : List (List Int)) (s : Int) : List Int := if s = 0 then wayAt f 1 else if s = 1 then wayAt f 2 else if s = 2 then timesW (wayAt f 1) (-1) else timesW (wayAt f 2) (-1)
def outR (f : List (List Int)) (s : Int) : List Int × Unit := r1 (outF f s)
def WOut (f : List (List Int)) (_ : Int) : Prop := Bd 4096 (wayAt f 1) ∧ Bd 4096 (wayAt f 2)
def frameL (f : Int) : List (List Int) := framesL.getD f.toNat [[0, 0, 0], [0, 0, 0], [0, 0, 0]]
def faceAtI (c : List Int) : Int := firstI (fun fr => decide (wayAt fr 0 = c)) 0 framesL
def faceAtR (c : List Int) : Int × Unit := r1 (faceAtI c)
def cellOk (n f i j : Int) : Bool := goodC n && decide (0 ≤ f) && decide (f < 6) && decide (0 ≤ i) && decide (i < n) && decide (0 ≤ j) && decide (j < n)
def cellI (n f i j : Int) : Int := if cellOk n f i j then (f * n + j) * n + i else -1
def cellR (n f i j : Int) : Int × Unit := r1 (cellI n f i j)
def middleI (n f i j : Int) : List Int := plusW (plusW (timesW (wayAt (frameL f) 0) n) (timesW (wayAt (frameL f) 1) (2 * i + 1 - n))) (timesW (wayAt (frameL f) 2) (2 * j + 1 - n))
def middleR' (n f i j : Int) : List Int × Unit := r1 (middleI n f i j)
def WMiddle (n f i j : Int) : Prop := 1 ≤ n ∧ n ≤ 32 ∧ 0 ≤ f ∧ f ≤ 5 ∧ 0 ≤ i ∧ i < n ∧ 0 ≤ j ∧ j < n
def indexI (n a : Int) : Int := imin (imax (Int.tdiv (a + n - 1) 2) 0) (n - 1)
def indexR (n a : Int) : Int × Unit := r1 (indexI n a)
def WIndex (n a : Int) : Prop := 1 ≤ n ∧ n ≤ 32 ∧ -1099511627776 ≤ a ∧ a ≤ 1099511627776
def dxI (o : Int) : Int := if o = 0 then 1 else if o = 2 then -1 else 0
def dyI (o : Int) : Int := if o = 1 then 1 else if o = 3 then -1 else 0
def backN (g : List (List Int)) (c : List Int) (q : Int) : Nat → Nat → Int × Int
  | 0, _ => (-1, 0)
  | f + 1, k => if outF g k = c then (q, (k : Int)) else backN g c q f (k + 1)
def backI (g : List (List Int)) (c : List Int) (q : Int) : Int × Int := backN g c q 4 0
def overI (n f i j o : Int) : Int × Int :=
  backI (frameL (faceAtI (outF (frameL f) o))) (wayAt (frameL f) 0)
    (cellI n (faceAtI (outF (frameL f) o)) (indexI n (dotW (plusW (middleI n f i j) (outF (frameL f) o)) (wayAt (frameL (faceAtI (outF (frameL f) o))) 1))) (indexI n (dotW (plusW (middleI n f i j) (outF (frameL f) o)) (wayAt (frameL (faceAtI (outF (frameL f) o))) 2))))
def besideOk (n c o : Int) : Bool := placeOk n c && decide (0 ≤ o) && decide (o < 4)
def besideI (n c o : Int) : Int × Int :=
  if besideOk n c o then
    (if 0 ≤ cellI n (c / (n * n)) (c % n + dxI o) (c / n % n + dyI o) then (cellI n (c / (n * n)) (c % n + dxI o) (c / n % n + dyI o), Int.tmod (o + 2) 4)
     else overI n (c / (n * n)) (c % n) (c / n % n) o)
  else (-1, 0)
def besideR (n c o : Int) : Int × Int × Unit := ((besideI n c o).1, (besideI n c o).2, ())
def III (a b c : Int) : Prop := I64 a ∧ I64 b ∧ I64 c
def middleQ (n c : Int) : Nat × Nat × Nat := pointQ (c / (n * n)) (ratioQ (2 * (c % n) + 1 - n) n) (ratioQ (2 * (c / n % n) + 1 - n) n)
def middleR (n c : Int) : (Nat × Nat × Nat) × Bool × Unit := if placeOk n c then (middleQ n c, true, ()) else ((0, 0, 0), false, ())
def cornA (n c : Int) (i : Int) : Nat × Nat × Nat := if i = 0 then cornerC n c 0 0 else if i = 1 then cornerC n c 1 0 else if i = 2 then cornerC n c 1 1 else cornerC n c 0 1
def endA (o : Int) : Int := if o = 0 then 1 else if o = 1 then 3 else 0
def endB (o : Int) : Int := if o = 0 then 2 else if o = 1 then 2 else if o = 2 then 3 else 1
def lengthG (n c o : Int) : Nat := if besideOk n c o then gapQ (cornA n c (endA o)) (cornA n c (endB o)) else 0
def lengthGR (n c o : Int) : Nat × Unit := r1 (lengthG n c o)
def gapG (n c o : Int) : Nat := if placeOk n c && placeOk n (besideI n c o).1 then gapQ (middleQ n c) (middleQ n (besideI n c o).1) else 0
def gapGR (n c o : Int) : Nat × Unit := r1 (gapG n c o)
def addE (n c o : Int) (s : List Ed × Nm) : List Ed × Nm :=
  if c > (besideI n c o).1 then s else (s.1 ++ [(c, o, (besideI n c o).1, (besideI n c o).2)], mput ((besideI n c o).1, (besideI n c o).2) s.1.length (mput (c, o) s.1.length s.2))
def addN (n c : Int) (s : List Ed × Nm) : Nat → List Ed × Nm
  | 0 => s
  | k + 1 => addE n c k (addN n c s k)
def netN (n : Int) : Nat → List Ed × Nm
  | 0 => ([], [])
  | k + 1 => addN n k (netN n k) 4
def netE (n : Int) : List Ed × Nm := netN n (cellsI n).toNat
def behindE (n : Int) (e : Ed) : List Int := [(besideI n e.1 (Int.tmod (e.2.1 + 2) 4)).1, (besideI n e.2.2.1 (Int.tmod (e.2.2.2 + 2) 4)).1]
def areasL (n : Int) : List Int := (List.range (cellsI n).toNat).map fun k : Nat => areaI n (k : Int)
def netG (n : Int) : Gr := (n, (netE n).1, (netE n).2, (netE n).1.map (behindE n), areasL n, (netE n).1.map (fun e => lengthG n e.1 e.2.1), (netE n).1.map (fun e => gapG n e.1 e.2.1))
def newR (n : Int) : Option Gr × Int × Unit := if cellsI n = 0 then (none, 10, ()) else (some (netG n), 0, ())
def nCells (g : Option Gr) : Int := match g with
  | none => 0
  | some g => (g.2.2.2.2.1.length : Nat)
def nCellsR (g : Option Gr) : Int × Unit := r1 (nCells g)
def nEdges (g : Option Gr) : Int := match g with
  | none => 0
  | some g => (g.2.1.length : Nat)
def nEdgesR (g : Option Gr) : Int × Unit := r1 (nEdges g)
def nArea (g : Option Gr) (c : Int) : Int := match g with
  | none => 0
  | some g => if 0 ≤ c ∧ c < (g.2.2.2.2.1.length : Nat) then g.2.2.2.2.1.getD c.toNat 0 else 0
def nAreaR (g : Option Gr) (c : Int) : Int × Unit := r1 (nArea g c)
end Go.Lift

set_option linter.unusedVariables false
namespace Go.Lift
open Go
def leN : Nat → Int → List Int
  | 0, _ => []
  | n + 1, x => x % 256 :: leN n (x / 256)
def le8 (x : Int) : List Int := leN 8 x
def leL (l : List Int) : List Int := l.flatMap le8
def uw (x : Int) : Int := IntKind.u64.wrap x
def iw (x : Int) : Int := IntKind.i64.wrap x
def sumStep (h c : Int) : Int := uw (Go.bits .xor .u64 h c * 1099511628211)
def sumF (b : List Int) : Int := b.foldl sumStep 14695981039346656037
def sumR (b : List Int) : Int × Unit := (sumF b, ())
def sizeI (n : Int) : Int := 29 + 240 * n * n
def sizeR (n : Int) : Int × Unit := (sizeI n, ())
def tarnL : List Int := [84, 65, 82, 78]
def headL (side : Int) (s : Se) : List Int := tarnL ++ [side % 256] ++ le8 (uw s.2.2.2.2.2) ++ le8 (uw s.2.2.2.2.1)
def restL (s : Se) : List Int := leL (s.1.map fun (x : Nat) => (x : Int)) ++ leL (s.2.1.map uw) ++ leL (s.2.2.1.map uw) ++ leL (s.2.2.2.1.map fun (x : Nat) => (x : Int))
def seaL (side : Int) (s : Se) : List Int := headL side s ++ restL s
def saveI (side : Int) (s : Se) : List Int := seaL side s ++ le8 (sumF (seaL side s))
def enI (side : Int) (s : Se) : List Int × Int := if (checkI side s).2 = 0 then (saveI side s, 0) else ([], (checkI side s).2)
def enR (side : Int) (s : Se) : List Int × Int × Unit := ((enI side s).1, (enI side s).2, ())
def unL : List Int → Int
  | [] => 0
  | c :: l => c + 256 * unL l
def unA (b : List Int) (at_ : Nat) : Int := unL ((b.drop at_).take 8)
def wholesA (b : List Int) (at_ n : Nat) : List Int := (List.range n).map fun i => iw (unA b (at_ + 8 * i))
def realsA (b : List Int) (at_ n : Nat) : List Nat := (List.range n).map fun i => (unA b (at_ + 8 * i)).toNat
def seaA (b : List Int) (n : Nat) : Se :=
  (realsA b 21 n, wholesA b (21 + 8 * n) n, wholesA b (21 + 16 * n) n, realsA b (21 + 24 * n) (2 * n), iw (unA b 13), iw (unA b 5))
def sea0 : Se := ([], [], [], [], 0, 0)
def formI (b : List Int) : Int :=
  if b.length < 21 then 31
  else if b.take 4 ≠ tarnL ∨ b.getD 4 0 < 1 ∨ b.getD 4 0 > 32 then 30
  else if (b.length : Int) < sizeI (b.getD 4 0) then 31
  else if (b.length : Int) ≠ sizeI (b.getD 4 0) then 30
  else if unA b (b.length - 8) ≠ sumF (b.take (b.length - 8)) then 32
  else 0
def sideA (b : List Int) : Int := b.getD 4 0
def seaB (b : List Int) : Se := seaA b (6 * (sideA b).toNat * (sideA b).toNat)
def deErr (b : List Int) : Int := if formI b = 0 then (checkI (sideA b) (seaB b)).2 else formI b
def deI (b : List Int) : Int × Se × Int := if deErr b = 0 then (sideA b, seaB b, 0) else (0, sea0, deErr b)
def deR (b : List Int) : Int × Se × Int × Unit := ((deI b).1, (deI b).2.1, (deI b).2.2, ())
def allI (a b : List Nat) : Bool := a == b
def allR (a b : List Nat) : Bool × Unit := (allI a b, ())
def intsR (a b : List Int) : Bool × Unit := (a == b, ())
def seasI (a b : Se) : Bool := a == b
def seasR (a b : Se) : Bool × Unit := (seasI a b, ())
def WSide (n : Int) : Prop := 1 ≤ n ∧ n ≤ 32
def lakeW (g : Option Gr) : List Int := (List.range (nCells g).toNat).map fun c : Nat => if c = 1 then iw (2 * nArea g c) else nArea g c
def lakeI (g : Option Gr) : Se := if nCells g > 6144 ∨ nEdges g ≠ 2 * nCells g then sea0 else
  (List.replicate (nCells g).toNat 0, lakeW g, List.replicate (nCells g).toNat 0, List.replicate (2 * nCells g).toNat 0, 0, 0)
def lakeR (g : Option Gr) : Se × Unit := (lakeI g, ())
def trueR4 {α β γ δ : Type} (_ : α) (_ : β) (_ : γ) (_ : δ) : Bool × Unit := r1 true
def WSums (b c : List Int) (at_ x : Int) : Prop := BLs b ∧ BLs c ∧ I64 at_ ∧ U8 x
end Go.Lift

set_option linter.unusedVariables false
set_option linter.unusedSimpArgs false
namespace Go.Lift
def lastQ (P : Program) (ops : Array Oper) (Q : Exit → Act → World → Prop) (n : Nat) : Exit → Act → World → Prop
  | .normal, a, w => wpOp P ops Q n (Q .normal) a w
  | _, _, _ => False
def guardLt (o : Oper) (n : Nat) : Bool := match o.guard with
  | some (j, _) => Nat.blt j n
  | none => true
section
variable {P : Program} {ops pre : Array Oper} {Q : Exit → Act → World → Prop}
theorem yielded_pre (heq : ∀ i, i < pre.size → pre[i]? = ops[i]?) {t : Array Value} {j : Nat} (hj : j < pre.size) : yielded pre t j = yielded ops t j := by
  unfold yielded; rw [heq j hj]
theorem Oper.wp_last {o : Oper} {n : Nat} {K K' : Act → World → Prop} (hK : ∀ a w, K a w → K' a w) {a : Act} {w : World} (h : o.wp P a w K (lastQ P ops Q n)) : o.wp P a w K' Q := by
  unfold Oper.wp at *
  generalize (execOp a.eval o).run P w = r at *
  unfold Oper.upon at *
  split at h
  · exact hK _ _ h
  · exact hK _ _ h
  · exact hK _ _ h
  · refine Calls.mono h fun e w' he => ?_
    cases e with
    | returned v => exact hK _ _ he
    | panicked ch => exact he.elim
    | outgrown => obtain ⟨_, _, he⟩ := he; exact he.elim
  · exact Go.Rows.mono h fun v w' hv => hK _ _ hv
  · exact h.elim
  · exact h.elim
theorem wpOp_last (heq : ∀ i, i < pre.size → pre[i]? = ops[i]?) (hg : ∀ i, i < pre.size → ∀ o, pre[i]? = some o → guardLt o pre.size = true) {n i : Nat} (hi : i < pre.size) {K K' : Act → World → Prop} (hK : ∀ a w, K a w → K' a w) {a : Act} {w : World}
    (h : wpOp P pre (lastQ P ops Q n) i K a w) : wpOp P ops Q i K' a w := by
  unfold wpOp at *
  rw [← heq i hi]
  split
  · rename_i hn; simp only [hn] at h; exact hK _ _ h
  · rename_i o ho
    simp only [ho] at h
    have hw : Region.wanted o (yielded pre a.tmps) = Region.wanted o (yielded ops a.tmps) := by
      unfold Region.wanted
      have := hg i hi o ho
      unfold guardLt at this
      split
      · rfl
      · rename_i j b hj
        rw [hj] at this
        rw [yielded_pre heq (by simpa using this)]
    rw [hw] at h
    split
    · rename_i hh; rw [if_pos hh] at h
      exact h.imp (Oper.wp_last hK) (fun ⟨h1, _, _, h2⟩ => h2.elim)
    · rename_i hh; rw [if_neg hh] at h; exact hK _ _ h
theorem pop_getD {l : Array Bool} {i : Nat} (hi : i + 1 < l.size) (d : Bool) : l.pop.getD i d = l.getD i d := by
  simp only [Array.getD_eq_getD_getElem?, Array.getElem?_pop]
  rw [if_pos (by omega)]
theorem wpAny_last (hsz : ops.size = pre.size + 1) (heq : ∀ i, i < pre.size → pre[i]? = ops[i]?) (hg : ∀ i, i < pre.size → ∀ o, pre[i]? = some o → guardLt o pre.size = true)
    {A : List (List Nat)} (anc1 : ∀ i, i < ops.size → ∀ d ∈ A.getD i [], ∃ d' ∈ depsOf ops i, d = d' ∨ d ∈ A.getD d' []) (anc2 : ∀ i, i < ops.size → ∀ d ∈ depsOf ops i, d < i) (hall : ∀ i, i < pre.size → i ∈ A.getD pre.size []) :
    ∀ (fuel : Nat) (listed : Array Bool) (a : Act) (w : World), listed.size = ops.size → listed.getD pre.size true = false →
      (∀ i, i < ops.size → listed.getD i false = true → ∀ d ∈ A.getD i [], listed.getD d false = true) →
      wpAny P .any pre (lastQ P ops Q pre.size) fuel listed.pop a w → wpAny P .any ops Q (fuel + 1) listed a w := by
  have both : ∀ (l : Array Bool) (i : Nat), i < l.size → l.getD i true = true → l.getD i false = true := fun l i hi h => by
    simp only [Array.getD_eq_getD_getElem?, Array.getElem?_eq_getElem hi, Option.getD_some] at h ⊢; exact h
  have both' : ∀ (l : Array Bool) (i : Nat), i < l.size → l.getD i false = true → l.getD i true = true := fun l i hi h => by
    simp only [Array.getD_eq_getD_getElem?, Array.getElem?_eq_getElem hi, Option.getD_some] at h ⊢; exact h
  have dep : ∀ i, i < pre.size → depsOf pre i = depsOf ops i := fun i hi => by unfold depsOf; rw [heq i hi]
  have full : ∀ (listed : Array Bool), listed.size = ops.size → Region.ready .any pre listed.pop = [] → ∀ i, i < pre.size → listed.getD i false = true := by
    intro listed hls hr i
    induction i using Nat.strongRecOn with
    | ind i ih =>
      intro hi
      cases hv : listed.getD i true with
      | true => exact both listed i (by omega) hv
      | false =>
        have ho : pre[i]? = some pre[i] := Array.getElem?_eq_getElem hi
        have : i ∈ Region.ready .any pre listed.pop := by
          refine mem_ready.2 ⟨by rw [pop_getD (by omega)]; exact hv, pre[i], ho, fun e he hb => ?_⟩
          have hd : e.on ∈ depsOf ops i := by rw [← dep i hi]; simp only [depsOf, ho]; exact deps_mem he hb
          have hlt := anc2 i (by omega) e.on hd
          rw [pop_getD (by omega)]
          exact ih e.on hlt (by omega)
        rw [hr] at this; cases this
  have fullO : ∀ (listed : Array Bool), listed.size = ops.size → Region.ready .any ops listed = [] → ∀ i, i < pre.size → listed.getD i false = true := by
    intro listed hls hr i
    induction i using Nat.strongRecOn with
    | ind i ih =>
      intro hi
      cases hv : listed.getD i true with
      | true => exact both listed i (by omega) hv
      | false =>
        have hi2 : i < ops.size := by omega
        have ho : ops[i]? = some ops[i] := Array.getElem?_eq_getElem hi2
        have : i ∈ Region.ready .any ops listed := by
          refine mem_ready.2 ⟨hv, ops[i], ho, fun e he hb => ?_⟩
          have hd : e.on ∈ depsOf ops i := by simp only [depsOf, ho]; exact deps_mem he hb
          have hlt := anc2 i hi2 e.on hd
          exact ih e.on hlt (by omega)
        rw [hr] at this; cases this
  have lastR : ∀ (listed : Array Bool), listed.size = ops.size → listed.getD pre.size true = false → (∀ i, i < pre.size → listed.getD i false = true) → pre.size ∈ Region.ready .any ops listed := by
    intro listed hls hl hf
    have hi2 : pre.size < ops.size := by omega
    refine mem_ready.2 ⟨hl, ops[pre.size], Array.getElem?_eq_getElem hi2, fun e he hb => ?_⟩
    have hd : e.on ∈ depsOf ops pre.size := by simp only [depsOf, Array.getElem?_eq_getElem hi2]; exact deps_mem he hb
    exact hf e.on (anc2 _ hi2 _ hd)
  have none : ∀ (listed : Array Bool), listed.size = ops.size → (∀ i, i < ops.size → listed.getD i true = true) → Region.ready .any ops listed = [] := by
    intro listed hls hf
    cases hr : Region.ready .any ops listed with
    | nil => rfl
    | cons j js =>
      obtain ⟨h1, o, h2, _⟩ := mem_ready.1 (show j ∈ Region.ready .any ops listed by rw [hr]; exact List.mem_cons_self)
      rw [hf j (lt_of_some h2)] at h1; cases h1
  have noneP : ∀ (listed : Array Bool), listed.size = ops.size → (∀ i, i < pre.size → listed.getD i false = true) → Region.ready .any pre listed.pop = [] := by
    intro listed hls hf
    cases hr : Region.ready .any pre listed.pop with
    | nil => rfl
    | cons j js =>
      obtain ⟨h1, o, h2, _⟩ := mem_ready.1 (show j ∈ Region.ready .any pre listed.pop by rw [hr]; exact List.mem_cons_self)
      have hj := lt_of_some h2
      rw [pop_getD (by omega), both' listed j (by omega) (hf j hj)] at h1; cases h1
  have fin : ∀ (fuel : Nat) (listed : Array Bool) (a : Act) (w : World), listed.size = ops.size → (∀ i, i < pre.size → listed.getD i false = true) →
      wpOp P ops Q pre.size (Q .normal) a w → wpOp P ops Q pre.size (wpAny P .any ops Q fuel (listed.setIfInBounds pre.size true)) a w := by
    intro fuel listed a w hls hf h
    have hr : Region.ready .any ops (listed.setIfInBounds pre.size true) = [] := by
      refine none _ (by simp [hls]) fun i hi => ?_
      by_cases e : pre.size = i
      · subst e
        simp [Array.getD_eq_getD_getElem?, Array.getElem?_setIfInBounds, hls, hsz]
      · rw [getD_set_ne true e]; exact both' listed i (by omega) (hf i (by omega))
    refine wpOp_mono (fun a w hq => ?_) h
    cases fuel with
    | zero => exact ⟨hr, hq⟩
    | succ fuel => exact ⟨fun _ => hq, fun i hi => by rw [hr] at hi; cases hi⟩
  intro fuel
  induction fuel with
  | zero =>
    intro listed a w hls hl hc h
    obtain ⟨h1, h2⟩ := h
    have hf := full listed hls h1
    refine ⟨fun hr => ?_, fun i hi => ?_⟩
    · have := lastR listed hls hl hf; rw [hr] at this; cases this
    · obtain ⟨g1, o, g2, _⟩ := mem_ready.1 hi
      have hlt := lt_of_some g2
      by_cases e : i < pre.size
      · rw [both' listed i (by omega) (hf i e)] at g1; cases g1
      · obtain rfl : i = pre.size := by omega
        exact fin 0 listed a w hls hf h2
  | succ fuel ih =>
    intro listed a w hls hl hc h
    obtain ⟨h1, h2⟩ := h
    refine ⟨fun hr => ?_, fun i hi => ?_⟩
    · have hf := fullO listed hls hr
      have := lastR listed hls hl hf; rw [hr] at this; cases this
    · obtain ⟨g1, o, g2, g3⟩ := mem_ready.1 hi
      have hlt := lt_of_some g2
      have hdl : ∀ d ∈ depsOf ops i, listed.getD d false = true := fun d hd => by
        simp only [depsOf, g2] at hd
        obtain ⟨e, he, hb, rfl⟩ := mem_deps hd
        exact g3 e he hb
      have hanc : ∀ d ∈ A.getD i [], listed.getD d false = true := by
        intro d hd
        obtain ⟨d', k1, k2⟩ := anc1 i hlt d hd
        have k3 := hdl d' k1
        rcases k2 with rfl | k2
        · exact k3
        · exact hc d' (by have := anc2 i hlt d' k1; omega) k3 d k2
      by_cases e : i < pre.size
      · have hir : i ∈ Region.ready .any pre listed.pop := by
          refine mem_ready.2 ⟨by rw [pop_getD (by omega)]; exact g1, o, by rw [heq i e]; exact g2, fun ed he hb => ?_⟩
          have hd : ed.on ∈ depsOf ops i := by simp only [depsOf, g2]; exact deps_mem he hb
          have hlt2 := anc2 i hlt ed.on hd
          rw [pop_getD (by omega)]
          exact g3 ed he hb
        refine wpOp_last heq hg e (fun a w hk => ?_) (h2 i hir)
        have hpop : listed.pop.setIfInBounds i true = (listed.setIfInBounds i true).pop := by
          apply Array.ext_getElem?
          intro j
          simp only [Array.getElem?_pop, Array.getElem?_setIfInBounds, Array.size_setIfInBounds, Array.size_pop]
          by_cases e1 : i = j
          · subst e1; simp [hls, hsz, e]; omega
          · simp [e1]
        rw [hpop] at hk
        refine ih (listed.setIfInBounds i true) a w (by simp [hls]) (by rw [getD_set_ne true (by omega)]; exact hl) (fun j hj hjl d hd => ?_) hk
        refine getD_set_true ?_
        by_cases e1 : i = j
        · subst e1; exact hanc d hd
        · rw [getD_set_ne false e1] at hjl; exact hc j hj hjl d hd
      · obtain rfl : i = pre.size := by omega
        have hf : ∀ j, j < pre.size → listed.getD j false = true := fun j hj => hanc j (hall j hj)
        exact fin _ listed a w hls hf (h1 (noneP listed hls hf))
end
end Go.Lift

set_option linter.unusedVariables false
set_option linter.unusedSimpArgs false
set_option linter.unusedSectionVars false
namespace Go.Lift
def aopW (cx : Cx) (o : Oper) (env : List EV) (h : List HObj) : Res := match o.op with
  | .build t ps => match ps.toList, cx.tab t with
    | [], some ⟨.struct fs, _, _, z, _⟩ => if tabAll cx fs then .ret (.x (.agg (z.map .val))) [] else .fail
    | _, _ => .fail
  | .fieldAddr t x f => match cx.tab t, cx.eval env x with
    | some ⟨.struct fs, _, _, _, _⟩, .x (.one (.ref id o)) => match fs[f]?, h[id]? with
      | some (off, ft), some (.box ..) => match cx.tab ft with
        | some fd => if fd.sz = 0 then .fail else .ret (.x (.one (.ref id (o + off)))) []
        | none => .fail
      | _, _ => .fail
    | _, _ => .fail
  | .move x => .ret (cx.eval env x) []
  | .binOp .sub _ x y _ => match cx.eval env x, cx.eval env y with
    | .x (.one (.val (.int k m))), .x (.one (.val (.int k' n))) => if k = k' then .ret (.val (.int k (k.wrap (m - n)))) [] else .fail
    | _, _ => .fail
  | .call cl => match cl.callee, cl.argTypes.toList, cl.args.toList with
    | .builtin .len, [t], [x] => match cx.tab t, cx.eval env x with
      | some ⟨.slice _, _, _, _, _⟩, .x (.one (.data (.slice ek) xs)) => .ret (.val (.int .i64 (List.length (α := ek.T) xs))) []
      | _, _ => .fail
    | _, _, _ => .fail
  | .slice t x none (some y) none => match cx.tab t, cx.eval env x, cx.eval env y with
    | some ⟨.slice e, _, _, _, _⟩, .x (.one (.data (.slice ek) xs)), .x (.one (.val (.int _ r))) => match cx.tab e with
      | some ed => if ed.sz = ek.sz then .ask (0 ≤ r ∧ r ≤ (List.length (α := ek.T) xs : Int)) fun _ => .ret (.x (.one (.data (.slice ek) (List.take (α := ek.T) r.toNat xs)))) [] else .fail
      | none => .fail
    | _, _, _ => .fail
  | _ => .fail
def takeW (cx : Cx) (ops : Array Oper) (h : List HObj) : List Nat → List EV → (List EV → Prop) → Prop
  | [], env, k => k env
  | i :: l, env, k => match ops[i]? with
    | some o => match o.guard with
      | none => (aopW cx o env h).wp fun ev _ => takeW cx ops h l (putE env o.dst ev) k
      | some _ => False
    | none => False
def allL : List Nat → (Nat → Prop) → Prop
  | [], _ => True
  | [i], f => f i
  | i :: l, f => f i ∧ allL l f
theorem allL_mem : ∀ {l : List Nat} {f : Nat → Prop}, allL l f → ∀ i ∈ l, f i
  | [], _, _, i, hi => by cases hi
  | [j], f, h, i, hi => by
    obtain rfl : i = j := by simpa using hi
    exact h
  | j :: j2 :: l, f, h, i, hi => by
    rcases List.mem_cons.1 hi with rfl | hi
    · exact h.1
    · exact allL_mem (l := j2 :: l) h.2 i hi
def takeF (cx : Cx) (wk : Wk) (call : CallEv) (ops : Array Oper) : Nat → Array Bool → List EV → List HObj → (List EV → List HObj → Prop) → Prop
  | 0, l, env, h, k => if (Region.ready .any ops l).isEmpty then k env h else False
  | n + 1, l, env, h, k => if (Region.ready .any ops l).isEmpty then False else allL (Region.ready .any ops l) fun i => match ops[i]? with
    | some o => match o.guard, nAlloc cx o with
      | none, 0 => stepOp cx wk call o env h h.length fun ev h' => takeF cx wk call ops n (l.setIfInBounds i true) (putE env o.dst ev) h' k
      | _, _ => False
    | none => False
def chkP (ops : Array Oper) : List Nat → Array Bool → Bool × Array Bool
  | [], l => (true, l)
  | i :: ps, l => if Region.free .any ops l i && (Region.ready .any ops l).contains i then chkP ops ps (l.setIfInBounds i true) else (false, l)
def takeOk (ops : Array Oper) (ps : List Nat) : Bool := Nat.ble ps.length ops.size && Region.noSelect ops && (chkP ops ps (Array.replicate ops.size false)).1
def takeR (cx : Cx) (wk : Wk) (call : CallEv) (ops : Array Oper) (ps : List Nat) (env : List EV) (h : List HObj) (k : List EV → List HObj → Prop) : Prop :=
  if takeOk ops ps then takeW cx ops h ps env fun env => takeF cx wk call ops (ops.size - ps.length) (chkP ops ps (Array.replicate ops.size false)).2 env h k else False
section
variable {P : Program} {cx : Cx} (hx : CxOk P cx) {call : CallEv} (hcall : CallOk P cx call)
include hx
omit hx in
theorem build0_run (hx : CxOk P cx) {t : TypeId} {fs : List (Nat × TypeId)} {sz by_ : Nat} {z : List Value} {kd : Option K} (ht : cx.tab t = some ⟨.struct fs, sz, by_, z, kd⟩) (hall' : tabAll cx fs = true) (w : World) :
    ∃ zs : Array Value, zs.toList = z ∧ (Instr.build t #[]).run P w = .ok (.agg zs) w := by
  have F := hx.1 _ _ ht
  obtain ⟨i, zv, h1, h2, h3, h4, h5, h6⟩ := F.info
  obtain ⟨fields, hf, hfs⟩ := F.k
  have hzv : (zeroValue t).run P w = .ok zv w := by simp [zeroValue, typeInfo, h1, h4]
  have tabAll_at : ∀ (fs : List (Nat × TypeId)), tabAll cx fs = true → ∀ f ∈ fs, ∃ d, cx.tab f.2 = some d := by
    intro fs
    induction fs with
    | nil => intro _ f hf; cases hf
    | cons g fs ih =>
      intro ht f hf
      obtain ⟨o, ft⟩ := g
      simp only [tabAll] at ht
      split at ht
      · rename_i d' hd'
        rcases List.mem_cons.1 hf with rfl | hf
        · exact ⟨d', hd'⟩
        · exact ih ht f hf
      · cases ht
  have places : ∀ (l : List Field), (∀ f ∈ l, ∃ d, cx.tab f.type = some d) → (l.mapM fun f => (do pure (f.offset, ← sizeOf f.type) : Sem (Nat × Nat))).run P w = .ok (l.map fun f => (f.offset, ((cx.tab f.type).map (·.sz)).getD 0)) w := by
    intro l
    induction l with
    | nil => intro _; rw [List.mapM_nil]; rfl
    | cons f l ih =>
      intro hall
      obtain ⟨fd, hfd⟩ := hall f List.mem_cons_self
      obtain ⟨fi, _, q1, q2, _⟩ := (hx.1 _ fd hfd).info
      rw [List.mapM_cons]
      have hs : (sizeOf f.type).run P w = .ok fd.sz w := by simp [sizeOf, typeInfo, q1, q2]
      simp only [Sem.run_bind, Sem.run_pure, hs, Result.andThen, ih (fun f hf => hall f (List.mem_cons_of_mem _ hf))]
      simp only [List.map_cons, hfd, Option.map_some, Option.getD_some]
  have hall : ∀ f ∈ fields.toList, ∃ d, cx.tab f.type = some d := by
    intro f hf
    have : (f.offset, f.type) ∈ fs := by rw [← hfs]; exact List.mem_map.2 ⟨f, hf, rfl⟩
    exact tabAll_at fs hall' _ this
  have hp := places fields.toList hall
  have hp2 : (fields.mapM fun f => (do pure (f.offset, ← sizeOf f.type) : Sem (Nat × Nat))).run P w = .ok ((fields.toList.map fun f => (f.offset, ((cx.tab f.type).map (·.sz)).getD 0)).toArray) w := by
    have e : (fields.mapM fun f => (do pure (f.offset, ← sizeOf f.type) : Sem (Nat × Nat))) = (do
        let l ← fields.toList.mapM fun f => (do pure (f.offset, ← sizeOf f.type) : Sem (Nat × Nat))
        pure l.toArray) := by
      have e1 : fields = fields.toList.toArray := by simp
      conv => lhs; rw [e1]
      rw [List.mapM_toArray, map_eq_pure_bind]
    rw [e]
    simp only [Sem.run_bind, hp, Result.andThen, Sem.run_pure]
  refine ⟨zv.cells, h5, ?_⟩
  simp only [Instr.build, Sem.run_bind, hzv, Result.andThen, run_underlying hf, hp2]
  rfl
theorem aopW_run {o : Oper} {c : RC} {env : List EV} {a : Act} (hg : GOk cx.glob c) (he : EnvRel c env a.tmps) {k : EV → List (Nat × HObj) → Prop} (h : (aopW cx o env c.heap).wp k) :
    ∃ v ev, (∀ w, (execOp a.eval o).run P w = .ok (.value v) w) ∧ k ev [] ∧ ev.rel c v := by
  have ev := fun x => eval_rel hg he x
  unfold aopW at h
  split at h
  · rename_i t ps hop
    split at h
    · rename_i fs _ _ z _ hps htab
      split at h
      · rename_i hall
        have ep : ps = #[] := by apply Array.ext'; simpa using hps
        subst ep
        have hz : ∃ zs : Array Value, zs.toList = z ∧ ∀ w, (Instr.build t #[]).run P w = .ok (.agg zs) w := by
          obtain ⟨zs, e1, _⟩ := build0_run (P := P) hx htab hall c.w
          refine ⟨zs, e1, fun w => ?_⟩
          obtain ⟨zs', e2, e3⟩ := build0_run (P := P) hx htab hall w
          have : zs' = zs := by apply Array.ext'; rw [e1, e2]
          rw [← this]; exact e3
        obtain ⟨zs, e1, e2⟩ := hz
        refine ⟨.agg zs, _, fun w => by simp [execOp, hop, e2, Result.andThen], h, ⟨zs, rfl, by rw [e1]; exact All2.vals c _⟩⟩
      · exact h.elim
    · exact h.elim
  · rename_i t x f hop
    split at h
    · rename_i fs _ _ _ _ id o' htab e1
      split at h
      · rename_i off ft m ty cs hfld ho
        split at h
        · rename_i fd hfd
          split at h
          · exact h.elim
          · rename_i hz
            obtain ⟨fields, hf, hfs⟩ := (hx.1 t _ htab).k
            have : ∃ fld, fields[f]? = some fld ∧ fld.offset = off ∧ fld.type = ft := by
              rw [← hfs] at hfld
              simp only [List.getElem?_map, Array.getElem?_toList, Option.map_eq_some_iff, Prod.mk.injEq] at hfld
              obtain ⟨fld, h1, h2, h3⟩ := hfld
              exact ⟨fld, h1, h2, h3⟩
            obtain ⟨fld, hfl, rfl, rfl⟩ := this
            have r1 := ev x
            rw [e1] at r1
            have r1 : SV.rel c (.ref id o') (a.eval x) := r1
            simp only [SV.rel, ho] at r1
            obtain ⟨b, hb, hu⟩ := r1
            obtain ⟨fi, _, q1, q2, _⟩ := (hx.1 _ _ hfd).info
            refine ⟨.pointer (some ⟨b, o' + fld.offset, none⟩), _, fun w => ?_, h, ?_⟩
            · have hs : (sizeOf fld.type).run P w = .ok fd.sz w := by simp [sizeOf, typeInfo, q1, q2]
              simp [execOp, hop, hu, Instr.fieldAt, run_underlying hf, hfl, Instr.sureAddr, fieldPlace, hs, hz, Addr.add_none, Result.andThen]
            · show SV.rel c (.ref id (o' + fld.offset)) _
              simp only [SV.rel, ho]
              exact ⟨b, hb, rfl⟩
        · exact h.elim
      · exact h.elim
    · exact h.elim
  · rename_i x hop
    exact ⟨a.eval x, _, fun w => by simp [execOp, hop], h, ev x⟩
  · rename_i t x y _ hop
    split at h
    · rename_i kd m kd' n e1 e2
      split at h
      · rename_i ek
        subst ek
        have r1 := ev x
        have r2 := ev y
        rw [e1] at r1
        rw [e2] at r2
        have u1 : a.eval x = .int kd m := r1
        have u2 : a.eval y = .int kd n := r2
        refine ⟨.int kd (kd.wrap (m - n)), _, fun w => ?_, h, rfl⟩
        simp [execOp, hop, u1, u2, eqGuard, binOp, Op.intArith]
      · exact h.elim
    · exact h.elim
  · rename_i cl hop
    split at h
    · rename_i t x hc ht ha
      split at h
      · rename_i e sz by_ z kd ek xs htab e1
        have hf : P.underlying t = some (.slice e) := (hx.1 t _ htab).k
        have r1 := ev x
        rw [e1] at r1
        obtain ⟨A, cap, q1, _⟩ := (r1 : K.rep c.w c.ok (.slice ek) xs [a.eval x])
        have u1 := (List.cons.inj q1).1
        have et : cl.argTypes = #[t] := by apply Array.ext'; simpa using ht
        have ea : cl.args = #[x] := by apply Array.ext'; simpa using ha
        refine ⟨.int .i64 (List.length (α := ek.T) xs), _, fun w => ?_, h, rfl⟩
        simp [execOp, hop, resolve, hc, invoke, builtin, et, ea, u1, Builtin.len_, run_underlying hf, goInt, Result.andThen]
      · exact h.elim
    · exact h.elim
  · rename_i t x y hop
    split at h
    · rename_i e sz by_ z kd ek xs0 kr r htab e1 e2
      obtain ⟨xs, rfl⟩ : ∃ xs : List ek.T, xs = xs0 := ⟨xs0, rfl⟩
      split at h
      · rename_i ed hed
        split at h
        · rename_i hsz
          obtain ⟨⟨h0, h2⟩, h⟩ := h
          have hf : P.underlying t = some (.slice e) := (hx.1 t _ htab).k
          have r1 := ev x
          rw [e1] at r1
          obtain ⟨A, cap, q1, hc, hm, hcase⟩ := (r1 : K.rep c.w c.ok (.slice ek) xs [a.eval x])
          have u1 := (List.cons.inj q1).1
          have r2 := ev y
          rw [e2] at r2
          have u2 : a.eval y = .int kr r := r2
          have hlen : (List.take r.toNat xs).length = r.toNat := by rw [List.length_take]; omega
          refine ⟨.slice (if cap = 0 then A else A.map (·.add 0)) r.toNat cap, _, fun w => ?_, h, ?_⟩
          · have hb : (Instr.sliceBounds true (List.length (α := ek.T) xs) cap none (some (.int kr r)) none).run P w = .ok (0, r.toNat, cap) w := by
              simp [Instr.sliceBounds, run_bound (P := P) w kr r cap _ ⟨h0, by omega⟩]
            obtain ⟨fi, _, g1, g2, _⟩ := (hx.1 _ _ hed).info
            have hs : (sizeOf e).run P w = .ok ed.sz w := by simp [sizeOf, typeInfo, g1, g2]
            simp [execOp, hop, Instr.sliceAt, u1, u2, run_underlying hf, Instr.slice, hb, hs, hsz, Result.andThen]
          · show K.rep c.w c.ok (.slice ek) _ [_]
            refine ⟨_, cap, by rw [hlen], by rw [hlen]; omega, by rw [hlen]; omega, ?_⟩
            by_cases hz : r.toNat = 0
            · left; exact List.eq_nil_of_length_eq_zero (by rw [hlen, hz])
            · right
              rcases hcase with rfl | ⟨b, off, vs, rfl, hok, hrows, hat⟩
              · simp at h2; omega
              · refine ⟨b, off, vs.take (r.toNat * ek.sz), ?_, hok, Rows.take (fun y cs => K.rep_len ek y cs) _ hrows, by simpa using hat.sub 0 (r.toNat * ek.sz)⟩
                rw [if_neg (by omega)]
                simp [Addr.add_none]
        · exact h.elim
      · exact h.elim
    · exact h.elim
  · exact h.elim
def onlyN (K : Act → World → Prop) : Exit → Act → World → Prop
  | .normal, a, w => K a w
  | _, _, _ => False
theorem takeW_sound {ops : Array Oper} {D : List Nat} (hD : ∀ o ∈ ops.toList, ∀ t, o.dst = some t → t ∈ D) (hs : Region.noSelect ops = true) {c : RC} (hg : GOk cx.glob c) {a0 : Act} {K : Act → World → Prop} {fuel : Nat} {k : List EV → Prop} : ∀ (ps : List Nat) (l : Array Bool) {env : List EV} {a : Act}, EnvRel c env a.tmps → Kp D a0 a → (chkP ops ps l).1 = true →
    takeW cx ops c.heap ps env k → (∀ env' a', k env' → EnvRel c env' a'.tmps → Kp D a0 a' → wpAny P .any ops (onlyN K) fuel (chkP ops ps l).2 a' c.w) → wpAny P .any ops (onlyN K) (fuel + ps.length) l a c.w
  | [], l, env, a, he, hk, hc, h, hq => hq env a h he hk
  | i :: ps, l, env, a, he, hk, hc, h, hq => by
    simp only [takeW] at h
    simp only [chkP] at hc hq
    split at hc
    · rename_i hfr
      rw [if_pos hfr] at hq
      simp only [Bool.and_eq_true] at hfr
      split at h
      · rename_i o ho
        split at h
        · rename_i hgd
          obtain ⟨v, ev, h1, h2, h3⟩ := aopW_run hx hg he h
          have hy : Go.Yields P ops o v a := .inl ⟨by unfold Region.wanted; rw [hgd], h1⟩
          refine wpAny_take ho hs hfr.1 hfr.2 (fun _ _ _ h => h.elim) hy ?_
          have hoD : ∀ t, o.dst = some t → t ∈ D := hD o (by rw [← Array.getElem?_toList] at ho; exact List.mem_of_getElem? ho)
          exact takeW_sound hD hs hg ps _ (EnvRel.put he o.dst h3) (Kp.trans (Kp.put hoD) hk) hc h2 hq
        · exact h.elim
      · exact h.elim
    · cases hc
include hcall in
theorem takeF_sound {wk : Wk} {ops : Array Oper} {D : List Nat} (hD : ∀ o ∈ ops.toList, ∀ t, o.dst = some t → t ∈ D) {a0 : Act} {c0 : RC} {k : List EV → List HObj → Prop} {K : Act → World → Prop}
    (hq : ∀ (c' : RC) (env' : List EV) (a' : Act), k env' c'.heap → Ext c0 c' → c'.Inv → EnvRel c' env' a'.tmps → Kp D a0 a' → K a' c'.w) : ∀ (n : Nat) (l : Array Bool) {c : RC} (hi : c.Inv) (hext : Ext c0 c) {env : List EV} {a : Act} (hg : GOk cx.glob c), EnvRel c env a.tmps → Kp D a0 a →
    takeF cx wk call ops n l env c.heap k → wpAny P .any ops (onlyN K) n l a c.w
  | 0, l, c, hi, hext, env, a, hg, he, hk, h => by
    unfold takeF at h
    split at h
    · rename_i hr
      exact ⟨List.isEmpty_iff.1 hr, hq c env a h hext hi he hk⟩
    · exact h.elim
  | n + 1, l, c, hi, hext, env, a, hg, he, hk, h => by
    unfold takeF at h
    split at h
    · exact h.elim
    rename_i hne
    refine wpAny_all rfl (fun e => hne (List.isEmpty_iff.2 e)) fun j hj => ?_
    have h := allL_mem h j hj
    split at h
    · rename_i o ho
      split at h
      · rename_i hgd hna
        have hoD : ∀ t, o.dst = some t → t ∈ D := hD o (by rw [← Array.getElem?_toList] at ho; exact List.mem_of_getElem? ho)
        have one := runOps_sound hx hcall (wk := wk) #[o] [o] 0 rfl (D := D) (fun o' ho' => by
          obtain rfl : o' = o := by simpa using ho'
          exact hoD) hi hg he (tgt := c.heap.length) (k := fun env h' => takeF cx wk call ops n (l.setIfInBounds j true) env h' k) (fun n hn => by
            have : allocs cx [o] = 0 := by simp [allocs, hna]
            omega) (by
            simp only [runOps, hgd]
            exact h) (Q := onlyN (wpAny P .any ops (onlyN K) n (l.setIfInBounds j true))) (fun c' env' a' h1 h2 h3 h4 h5 => takeF_sound hD hq n _ h3 (hext.trans h2) (GOk.mono hg h2) h4 (Kp.trans h5 hk) h1)
        have one : wpOp P #[o] (onlyN (wpAny P .any ops (onlyN K) n (l.setIfInBounds j true))) 0 (wpAny P .any ops (onlyN K) n (l.setIfInBounds j true)) a c.w := by
          have e := wpOps_cons (P := P) (ops := #[o]) (Q := onlyN (wpAny P .any ops (onlyN K) n (l.setIfInBounds j true))) 0 [] a c.w
          exact e ▸ one
        unfold wpOp at one ⊢
        rw [ho]
        have hw : ∀ ops' : Array Oper, Region.wanted o (yielded ops' a.tmps) = true := fun ops' => by unfold Region.wanted; rw [hgd]
        simp only [hw, if_true]
        have one : (if Region.wanted o (yielded #[o] a.tmps) = true then o.wp P a c.w (wpAny P .any ops (onlyN K) n (l.setIfInBounds j true)) (onlyN (wpAny P .any ops (onlyN K) n (l.setIfInBounds j true))) ∨ o.asks P a c.w ∧ LetsOut (onlyN (wpAny P .any ops (onlyN K) n (l.setIfInBounds j true))) else _) := one
        rw [if_pos (hw _)] at one
        rcases one with one | ⟨_, _, _, one⟩
        · left
          unfold Oper.wp at *
          generalize (execOp a.eval o).run P c.w = r at *
          unfold Oper.upon at *
          split at one
          · exact one
          · exact one
          · exact one
          · refine Calls.mono one fun e w' he => ?_
            cases e with
            | returned v => exact he
            | panicked ch => exact he.elim
            | outgrown => obtain ⟨_, _, he⟩ := he; exact he.elim
          · exact one
          · exact one.elim
          · exact one.elim
        · exact one.elim
      · exact h.elim
    · exact h.elim
include hcall in
theorem take_sound {wk : Wk} {ops : Array Oper} {ps : List Nat} {D : List Nat} (hD : ∀ o ∈ ops.toList, ∀ t, o.dst = some t → t ∈ D) {c : RC} (hi : c.Inv) {env : List EV} {a : Act} (hg : GOk cx.glob c) (he : EnvRel c env a.tmps)
    {k : List EV → List HObj → Prop} {K : Act → World → Prop} (hq : ∀ (c' : RC) (env' : List EV) (a' : Act), k env' c'.heap → Ext c c' → c'.Inv → EnvRel c' env' a'.tmps → Kp D a a' → K a' c'.w)
    (h : takeR cx wk call ops ps env c.heap k) : wpAny P .any ops (onlyN K) ops.size (Array.replicate ops.size false) a c.w := by
  unfold takeR at h
  split at h
  · rename_i hok
    unfold takeOk at hok
    simp only [Bool.and_eq_true] at hok
    have hle : ps.length ≤ ops.size := Nat.le_of_ble_eq_true hok.1.1
    have := takeW_sound hx hD hok.1.2 (c := c) hg (K := K) (fuel := ops.size - ps.length) ps (Array.replicate ops.size false) he Kp.refl hok.2 h fun env' a' g1 g2 g3 =>
      takeF_sound hx hcall hD hq _ _ hi (Ext.refl c) hg g2 g3 g1
    rw [show ops.size - ps.length + ps.length = ops.size by omega] at this
    exact this
  · exact h.elim
omit hx in
theorem wpOp_only {ops : Array Oper} {Q : Exit → Act → World → Prop} {K0 : Act → World → Prop} {i : Nat} {K K' : Act → World → Prop} (hK : ∀ a w, K a w → K' a w) {a : Act} {w : World} (h : wpOp P ops (onlyN K0) i K a w) : wpOp P ops Q i K' a w := by
  unfold wpOp at *
  split
  · rename_i hn; simp only [hn] at h; exact hK _ _ h
  · rename_i o ho
    simp only [ho] at h
    split
    · rename_i hw
      rw [if_pos hw] at h
      rcases h with h | ⟨_, _, _, h⟩
      · left
        unfold Oper.wp at *
        generalize (execOp a.eval o).run P w = r at *
        unfold Oper.upon at *
        split at h
        · exact hK _ _ h
        · exact hK _ _ h
        · exact hK _ _ h
        · refine Calls.mono h fun e w' he => ?_
          cases e with
          | returned v => exact hK _ _ he
          | panicked ch => exact he.elim
          | outgrown => obtain ⟨_, _, he⟩ := he; exact he.elim
        · exact Go.Rows.mono h fun v w' hv => hK _ _ hv
        · exact h.elim
        · exact h.elim
      · exact h.elim
    · rename_i hw; rw [if_neg hw] at h; exact hK _ _ h
omit hx in
theorem wpAny_only {ops : Array Oper} {Q : Exit → Act → World → Prop} : ∀ {fuel : Nat} {l : Array Bool} {a : Act} {w : World}, wpAny P .any ops (onlyN (Q .normal)) fuel l a w → wpAny P .any ops Q fuel l a w
  | 0, l, a, w, h => ⟨h.1, h.2⟩
  | n + 1, l, a, w, h => ⟨fun e => h.1 e, fun i hi => wpOp_only (fun a w hk => wpAny_only hk) (h.2 i hi)⟩
end
end Go.Lift

set_option linter.unusedVariables false
set_option linter.unusedSimpArgs false
set_option linter.unusedSectionVars false
namespace Go.Lift
def dieArgs (mf : FuncId) (o : Oper) : Option (Operand × Operand) := match o.guard with
  | some _ => none
  | none => match o.op with
    | .call c => match c.callee, c.args.toList with
      | .value (.func f), [a, b] => if f = mf then some (a, b) else none
      | _, _ => none
    | _ => none
def lastOk (ops : Array Oper) : Bool :=
  upTo ops.size (ancOk ops (mkAnc ops.toList)) && (upTo (ops.size - 1) fun i => elemB i ((mkAnc ops.toList).getD (ops.size - 1) [])) &&
    upTo (ops.size - 1) fun i => match ops[i]? with
      | some o => guardLt o (ops.size - 1)
      | none => false
def gaveUp (v : Value) : Exit := .panic [{ v := v, recovered := false }]
def dieK (cx : Cx) (pv : Int → Value) (x y : Operand) (d : Option Tmp) (k : Exit → List EV → List HObj → Prop) (env : List EV) (h : List HObj) : Prop := match cx.eval env x, cx.eval env y with
  | .x (.one (.val (.bool b))), .x (.one (.val (.int .i64 n))) => Br b (k .normal (putE env d (.tup [])) h) (k (gaveUp (pv n)) env h)
  | _, _ => False
abbrev Tks := Nat → Option (List Nat)
def aevalD (cx : Cx) (hn : Hn) (call : CallEv) (tk : Tks) (mf : FuncId) (pv : Int → Value) : Code → List EV → List HObj → (Exit → List EV → List HObj → Prop) → Prop
  | .seq a b, env, h, k => aevalD cx hn call tk mf pv a env h fun e env h => match e with
    | .normal => aevalD cx hn call tk mf pv b env h k
    | e => k e env h
  | .region id ops draw, env, h, k => match ops.toList.getLast?.bind (dieArgs mf), ops.toList.getLast? with
    | some (x, y), some o => if lastOk ops then (match tk id, draw with
        | some ps, true => takeR cx hn.wk call ops.toList.dropLast.toArray ps env h fun env h => dieK cx pv x y o.dst k env h
        | _, _ => aeval cx hn call (.region id ops.toList.dropLast.toArray draw) env h fun e env h => match e with
          | .normal => dieK cx pv x y o.dst k env h
          | _ => False)
      else False
    | _, _ => match tk id, draw with
      | some ps, true => takeR cx hn.wk call ops ps env h fun env h => k .normal env h
      | _, _ => aeval cx hn call (.region id ops draw) env h k
  | c, env, h, k => aeval cx hn call c env h k
def MustOk (P : Program) (mf : FuncId) (pv : Int → Value) : Prop :=
  ∀ (b : Bool) (n : Int) (w : World), (callFunc mf #[.bool b, .int .i64 n]).run P w = .ok (.enter mf #[.bool b, .int .i64 n]) w ∧
    ∀ (R : Ending → World → Prop), (b = true → R (.returned (.tuple #[])) w) → (b = false → R (.panicked [{ v := pv n, recovered := false }]) w) → Calls P mf #[.bool b, .int .i64 n] w R
theorem wpOps_last {P : Program} {ops pre : Array Oper} {Q : Exit → Act → World → Prop} (heq : ∀ i, i < pre.size → pre[i]? = ops[i]?) (hg : ∀ i, i < pre.size → ∀ o, pre[i]? = some o → guardLt o pre.size = true) {n : Nat} :
    ∀ (l : List Nat) (a : Act) (w : World), (∀ i ∈ l, i < pre.size) → wpOps P pre (lastQ P ops Q n) l a w → wpOps P ops Q (l ++ [n]) a w
  | [], a, w, hl, h => by
    rw [List.nil_append, wpOps_cons]
    exact h
  | i :: l, a, w, hl, h => by
    rw [List.cons_append, wpOps_cons]
    rw [wpOps_cons] at h
    exact wpOp_last heq hg (hl i List.mem_cons_self) (fun a w hk => wpOps_last heq hg l a w (fun j hj => hl j (List.mem_cons_of_mem _ hj)) hk) h
section
variable {P : Program} {cx : Cx} (hx : CxOk P cx) (hmix : P.follows .mixedOrders = true) (hn : Hn) {call : CallEv} (hcall : CallOk P cx call) {tk : Tks} {mf : FuncId} {pv : Int → Value} (hm : MustOk P mf pv)
include hx hmix hcall hm
theorem die_op {ops : Array Oper} {n : Nat} {o : Oper} (ho : ops[n]? = some o) {x y : Operand} (hd : dieArgs mf o = some (x, y)) {D : List Nat} (hD : ∀ t, o.dst = some t → t ∈ D) {c : RC} (hi : c.Inv) {env : List EV} {a : Act} (hg : GOk cx.glob c) (he : EnvRel c env a.tmps)
    {k : Exit → List EV → List HObj → Prop} (h : dieK cx pv x y o.dst k env c.heap) {Q : Exit → Act → World → Prop}
    (hq : ∀ (e : Exit) (env' : List EV) (a' : Act), k e env' c.heap → EnvRel c env' a'.tmps → Kp D a a' → Q e a' c.w) : wpOp P ops Q n (Q .normal) a c.w := by
  unfold dieArgs at hd
  split at hd
  · cases hd
  rename_i hgd
  split at hd
  · rename_i cl hop
    split at hd
    · rename_i f x' y' hc ha
      split at hd
      · rename_i hf
        subst hf
        cases hd
        unfold dieK at h
        have r1 := eval_rel hg he x
        have r2 := eval_rel hg he y
        split at h
        · rename_i b m e1 e2
          rw [e1] at r1
          rw [e2] at r2
          have u1 : a.eval x = .bool b := r1
          have u2 : a.eval y = .int .i64 m := r2
          obtain ⟨m1, m2⟩ := hm b m c.w
          have hargs : cl.args.map a.eval = #[.bool b, .int .i64 m] := by
            apply Array.ext'
            simp [ha, u1, u2]
          have hex : (execOp a.eval o).run P c.w = .ok (.enter f #[.bool b, .int .i64 m]) c.w := by
            simp only [execOp, hop, resolve, hc, pure_bind, invoke]
            rw [hargs]
            exact m1
          unfold wpOp
          rw [ho]
          simp only
          have hw : Region.wanted o (yielded ops a.tmps) = true := by unfold Region.wanted; rw [hgd]
          rw [if_pos hw]
          refine .inl ?_
          unfold Oper.wp
          rw [hex]
          refine m2 _ (fun hb => ?_) (fun hb => ?_)
          · subst hb
            exact hq .normal _ (a.put o.dst (.tuple #[])) (Br.true h rfl) (EnvRel.put he o.dst (show EV.rel c (.tup []) _ from ⟨#[], rfl, .nil⟩)) (Kp.put hD)
          · subst hb
            exact hq _ env a (Br.false h rfl) he Kp.refl
        · exact h.elim
      · cases hd
    · cases hd
  · cases hd
theorem regD_sound (id : Nat) (ops : Array Oper) (draw : Bool) {D : List Nat} (hD : ∀ o ∈ ops.toList, ∀ t, o.dst = some t → t ∈ D) {c : RC} (hi : c.Inv) {env : List EV} {a : Act} (hg : GOk cx.glob c) (he : EnvRel c env a.tmps) {k : Exit → List EV → List HObj → Prop}
    (h : aevalD cx hn call tk mf pv (.region id ops draw) env c.heap k) {Q : Exit → Act → World → Prop}
    (hq : ∀ (e : Exit) (c' : RC) (env' : List EV) (a' : Act), k e env' c'.heap → Ext c c' → c'.Inv → EnvRel c' env' a'.tmps → Kp D a a' → Q e a' c'.w) : (Code.region id ops draw).wp P Q a c.w := by
  unfold aevalD at h
  split at h
  rotate_left
  · split at h
    · refine wp_region_any hmix ?_
      have E1 := Ext.grows (c := c) (Grows.drew c.w)
      have I1 := RC.Inv.grows hi (Grows.drew c.w)
      have any := take_sound hx hcall (wk := hn.wk) hD (c := { c with w := c.w.drew }) I1 (GOk.mono hg E1) (EnvRel.mono he E1) (k := fun env h => k .normal env h) (K := Q .normal) (fun c' env' a' g1 g2 g3 g4 g5 => hq .normal c' env' a' g1 (E1.trans g2) g3 g4 g5) h
      exact wpAny_only any
    · exact region_sound hx hmix hn hcall id ops _ hD hi hg he h hq
  rename_i x y o hdie hlast
  rw [hlast] at hdie
  have hdie : dieArgs mf o = some (x, y) := hdie
  split at h
  rotate_left
  · exact h.elim
  rename_i hok
  unfold lastOk at hok
  simp only [Bool.and_eq_true] at hok
  obtain ⟨⟨ok1, ok2⟩, ok3⟩ := hok
  obtain ⟨pl, hpl⟩ : ∃ pl, ops.toList = pl ++ [o] := List.getLast?_eq_some_iff.1 hlast
  have hdl : ops.toList.dropLast = pl := by rw [hpl]; simp
  rw [hdl] at h
  obtain ⟨pre, hpre⟩ : ∃ pre : Array Oper, pre = pl.toArray := ⟨_, rfl⟩
  rw [← hpre] at h
  have hpt : pre.toList = pl := by rw [hpre]
  have hpsz : pre.size = pl.length := by rw [← hpt]; simp
  have hsz : ops.size = pre.size + 1 := by rw [← Array.length_toList, hpl, hpsz]; simp
  have ho : ops[pre.size]? = some o := by
    rw [← Array.getElem?_toList, hpl, hpsz]; simp
  have heq : ∀ i, i < pre.size → pre[i]? = ops[i]? := fun i hi => by
    rw [← Array.getElem?_toList, ← Array.getElem?_toList, hpl, hpt, List.getElem?_append_left (by rw [← hpsz]; exact hi)]
  have hs1 : ops.size - 1 = pre.size := by omega
  rw [hs1] at ok2 ok3
  have hgl : ∀ i, i < pre.size → ∀ o, pre[i]? = some o → guardLt o pre.size = true := fun i hi o' ho' => by
    have := upTo_spec ok3 i hi
    rw [← heq i hi, ho'] at this
    exact this
  have hDp : ∀ o ∈ pre.toList, ∀ t, o.dst = some t → t ∈ D := fun o' ho' => hD o' (by rw [hpl]; rw [hpt] at ho'; exact List.mem_append_left _ ho')
  have hDo : ∀ t, o.dst = some t → t ∈ D := hD o (by rw [hpl]; simp)
  have last : ∀ (c' : RC) (env' : List EV) (a' : Act), dieK cx pv x y o.dst k env' c'.heap → Ext c c' → c'.Inv → EnvRel c' env' a'.tmps → Kp D a a' → lastQ P ops Q pre.size .normal a' c'.w := by
    intro c' env' a' h1 h2 h3 h4 h5
    exact die_op hx hmix hcall hm ho hdie hDo h3 (GOk.mono hg h2) h4 h1 fun e env2 a2 g1 g2 g3 => hq e c' env2 a2 g1 h2 h3 g2 (Kp.trans g3 h5)
  have anc1 : ∀ i, i < ops.size → ∀ d ∈ (mkAnc ops.toList).getD i [], ∃ d' ∈ depsOf ops i, d = d' ∨ d ∈ (mkAnc ops.toList).getD d' [] := by
    intro i hi d hd
    have h1 := (Bool.and_eq_true_iff.1 (upTo_spec ok1 i hi)).1
    have h2 := List.all_eq_true.1 h1 d hd
    obtain ⟨d', h3, h4⟩ := List.any_eq_true.1 h2
    refine ⟨d', h3, ?_⟩
    split at h4
    · rename_i h5; exact .inl (by simpa using h5)
    · exact .inr ((elemB_iff _ _).1 h4)
  have anc2 : ∀ i, i < ops.size → ∀ d ∈ depsOf ops i, d < i := by
    intro i hi d hd
    have h1 := (Bool.and_eq_true_iff.1 (upTo_spec ok1 i hi)).2
    simpa using List.all_eq_true.1 h1 d hd
  have hall : ∀ i, i < pre.size → i ∈ (mkAnc ops.toList).getD pre.size [] := fun i hi => (elemB_iff _ _).1 (upTo_spec ok2 i hi)
  cases draw with
  | false =>
    have h : aeval cx hn call (.region id pre false) env c.heap (fun e env h => match e with | .normal => dieK cx pv x y o.dst k env h | _ => False) := by
      revert h
      rcases tk id with _ | ps <;> exact fun h => h
    obtain ⟨E1, I1⟩ := Ext.pends hi (allocs cx pre.toList)
    simp only [aeval] at h
    refine wp_region ?_
    have := runOps_sound hx hcall pre pre.toList 0 (by simp) hDp (c := { c with heap := c.heap ++ List.replicate (allocs cx pre.toList) .pend }) I1 (a := a) (GOk.mono hg E1) (EnvRel.mono he E1) (tgt := c.heap.length)
      (fun i hi => by simp [hi]) h (Q := lastQ P ops Q pre.size) (fun c' env' a' h1 h2 h3 h4 h5 => last c' env' a' (bindE_out h1) (E1.trans h2) h3 h4 h5)
    rw [hsz, List.range_succ]
    refine wpOps_last heq hgl (List.range pre.size) a c.w (fun i hi => List.mem_range.1 hi) ?_
    rw [List.range_eq_range']
    simpa using this
  | true =>
    split at h
    · rename_i ps htk
      · refine wp_region_any hmix ?_
        have E1 := Ext.grows (c := c) (Grows.drew c.w)
        have I1 := RC.Inv.grows hi (Grows.drew c.w)
        have any := take_sound hx hcall (wk := hn.wk) hDp (c := { c with w := c.w.drew }) I1 (GOk.mono hg E1) (EnvRel.mono he E1) (k := fun env h => dieK cx pv x y o.dst k env h) (K := lastQ P ops Q pre.size .normal) (fun c' env' a' g1 g2 g3 g4 g5 => last c' env' a' g1 (E1.trans g2) g3 g4 g5) h
        have eq : onlyN (lastQ P ops Q pre.size .normal) = lastQ P ops Q pre.size := by
          funext e a w
          cases e <;> rfl
        rw [eq] at any
        have := wpAny_last hsz heq hgl anc1 anc2 hall pre.size (Array.replicate ops.size false) a { c.w with drawn := c.w.drawn + 1 } (by simp) (by simp [Array.getD_eq_getD_getElem?, Array.getElem?_replicate, hsz]) (by
          intro i hi hl
          rw [getD_replicate_false] at hl; cases hl) (by
          have e : (Array.replicate ops.size false).pop = Array.replicate pre.size false := by rw [hsz]; simp
          rw [e]; exact any)
        rw [hsz] at this ⊢
        exact this
    · obtain ⟨E1, I1⟩ := Ext.pends hi (allocs cx pre.toList)
      simp only [aeval] at h
      split at h
      · rename_i hd
        refine wp_region_any hmix ?_
        have E2 := E1.trans (Ext.grows (c := { c with heap := c.heap ++ List.replicate (allocs cx pre.toList) .pend }) (Grows.drew c.w))
        have I2 := RC.Inv.grows I1 (Grows.drew c.w)
        have hc := runD_chain (wk := hn.wk) (call := call) (cx := cx) (ops := pre) (base := c.heap.length) (A := mkAnc pre.toList) (k := fun env h => bindE (hn.binds id) env fun env => dieK cx pv x y o.dst k env h) pre.toList 0 c.heap.length (by simp) (by simp [tgAt, allocs]) env (c.heap ++ List.replicate (allocs cx pre.toList) .pend)
        have hc := hc ▸ h
        have any := any_sound hx hcall pre c.heap.length (mkAnc pre.toList) hd (inl := hn.inl) (k := fun env h => bindE (hn.binds id) env fun env => dieK cx pv x y o.dst k env h) (c0 := c) (a0 := a) (Q := lastQ P ops Q pre.size) hDp (fun c' env' a' h1 h2 h3 h4 h5 => last c' env' a' (bindE_out h1) h2 h3 h4 h5) pre.size (List.range' 0 pre.toList.length) (Array.replicate pre.size false)
          (c := { c with heap := c.heap ++ List.replicate (allocs cx pre.toList) .pend, w := c.w.drew }) I2 E2 (a := a) Kp.refl (GOk.mono hg E2) (EnvRel.mono he E2) (by simp) (by simp) (by
            intro i
            simp only [List.mem_range', Array.getD_eq_getD_getElem?, Array.getElem?_replicate]
            constructor
            · rintro ⟨j, hj, rfl⟩
              have : 0 + 1 * j < pre.size := by simp at hj; omega
              exact ⟨this, by rw [if_pos this]; rfl⟩
            · rintro ⟨hlt, _⟩
              exact ⟨i, by simpa using hlt, by omega⟩) List.pairwise_lt_range' (by
            intro i hi hl
            rw [getD_replicate_false] at hl; cases hl) (by
            intro i _ j hj
            have h1 : tgAt cx pre c.heap.length i + nAt cx pre i ≤ c.heap.length + allocs cx pre.toList := by
              rw [← tgAt_succ]
              unfold tgAt allocs
              have : ((pre.toList.take (i + 1)).map (nAlloc cx)).sum ≤ (pre.toList.map (nAlloc cx)).sum := by
                conv => rhs; rw [← List.take_append_drop (i + 1) pre.toList]
                rw [List.map_append, List.sum_append]; omega
              omega
            have h2 : c.heap.length ≤ tgAt cx pre c.heap.length i := by unfold tgAt; omega
            rw [List.getElem?_append_right (by omega), List.getElem?_replicate, if_pos (by omega)]) hc
        have := wpAny_last hsz heq hgl anc1 anc2 hall pre.size (Array.replicate ops.size false) a { c.w with drawn := c.w.drawn + 1 } (by simp) (by simp [Array.getD_eq_getD_getElem?, Array.getElem?_replicate, hsz]) (by
          intro i hi hl
          rw [getD_replicate_false] at hl; cases hl) (by
          have e : (Array.replicate ops.size false).pop = Array.replicate pre.size false := by rw [hsz]; simp
          rw [e]; exact any)
        rw [hsz] at this ⊢
        exact this
      · exact h.elim
theorem aevalD_sound : ∀ (code : Code) {D : List Nat} (hD : ∀ t ∈ dsts code, t ∈ D) {c : RC} (hi : c.Inv) {env : List EV} {a : Act} (hg : GOk cx.glob c) (he : EnvRel c env a.tmps) {k : Exit → List EV → List HObj → Prop}
    (h : aevalD cx hn call tk mf pv code env c.heap k) {Q : Exit → Act → World → Prop}
    (hq : ∀ (e : Exit) (c' : RC) (env' : List EV) (a' : Act), k e env' c'.heap → Ext c c' → c'.Inv → EnvRel c' env' a'.tmps → Kp D a a' → Q e a' c'.w), code.wp P Q a c.w := by
  intro code
  induction code with
  | region id ops draw =>
    intro D hD c hi env a hg he k h Q hq
    exact regD_sound hx hmix hn hcall hm id ops draw (fun o ho t ht => hD t (List.mem_filterMap.2 ⟨o, ho, ht⟩)) hi hg he h hq
  | seq x y ihx ihy =>
    intro D hD c hi env a hg he k h Q hq
    refine wp_seq (ihx (fun t ht => hD t (List.mem_append_left _ ht)) hi hg he h fun e c' env' a' h1 h2 h3 h4 h5 => ?_)
    cases e with
    | normal => exact ihy (fun t ht => hD t (List.mem_append_right _ ht)) h3 (GOk.mono hg h2) h4 h1 fun e2 c2 env2 a2 g1 g2 g3 g4 g5 => hq e2 c2 env2 a2 g1 (h2.trans g2) g3 g4 (Kp.trans g5 h5)
    | exit id => exact hq _ c' env' a' h1 h2 h3 h4 h5
    | goto l => exact hq _ c' env' a' h1 h2 h3 h4 h5
    | ret => exact hq _ c' env' a' h1 h2 h3 h4 h5
    | panic ch => exact hq _ c' env' a' h1 h2 h3 h4 h5
    | outgrown => exact hq _ c' env' a' h1 h2 h3 h4 h5
  | _ =>
    intro D hD c hi env a hg he k h Q hq
    exact aeval_sound hx hmix hn hcall _ hD hi hg he h hq
end
end Go.Lift

set_option linter.unusedVariables false
set_option linter.unusedSimpArgs false
set_option linter.unusedSectionVars false
namespace Go.Lift
structure RecTy where
  bt : TypeId
  it : TypeId
  et : TypeId
  st : TypeId
  ft : TypeId
  jt : TypeId
  tt : TypeId
def mustOps0 (y : RecTy) : Array Oper := #[{ dst := some 4, op := Op.move (Operand.tmp 0), type := y.bt, pos := "save.go:89", after := #[], guard := none }, { dst := some 5, op := Op.unOp UnOp.not y.bt (Operand.tmp 4), type := y.bt, pos := "save.go:89", after := #[{ on := 0, ground := Ground.data }], guard := none }]
def mustOps1 (y : RecTy) : Array Oper := #[{ dst := some 6, op := Op.move (Operand.tmp 1), type := y.et, pos := "save.go:90", after := #[], guard := none }, { dst := some 7, op := Op.build y.ft #[(0, Operand.tmp 6)], type := y.ft, pos := "save.go:90", after := #[{ on := 0, ground := Ground.data }], guard := none }, { dst := some 8, op := Op.makeInterface y.ft (Operand.tmp 7), type := y.jt, pos := "save.go:90", after := #[{ on := 1, ground := Ground.data }], guard := none }, { dst := none, op := Op.panic (Operand.tmp 8), type := 0, pos := "save.go:90", after := #[{ on := 2, ground := Ground.data }], guard := none }]
def recOps0 (y : RecTy) : Array Oper := #[{ dst := some 6, op := Op.call { callee := Callee.builtin Builtin.recover, args := #[], argTypes := #[] }, type := y.jt, pos := "save.go:97", after := #[], guard := none }, { dst := some 3, op := Op.assign (Operand.tmp 6), type := y.jt, pos := "save.go:97", after := #[{ on := 0, ground := Ground.data }, { on := 0, ground := Ground.chain }, { on := 0, ground := Ground.phase }], guard := none }]
def recOps1 (y : RecTy) : Array Oper := #[{ dst := some 7, op := Op.move (Operand.tmp 3), type := y.jt, pos := "save.go:97", after := #[], guard := none }, { dst := some 8, op := Op.binOp BinOp.neq y.jt (Operand.tmp 7) (Operand.const Value.nilIface) y.jt, type := y.bt, pos := "save.go:97", after := #[{ on := 0, ground := Ground.data }], guard := none }]
def recOps2 (y : RecTy) : Array Oper := #[{ dst := some 10, op := Op.move (Operand.tmp 3), type := y.jt, pos := "save.go:98", after := #[], guard := none }, { dst := some 11, op := Op.typeAssert (Operand.tmp 10) y.jt y.ft true, type := y.tt, pos := "save.go:98", after := #[{ on := 0, ground := Ground.data }], guard := none }, { dst := some 9, op := Op.move (Operand.tmp 11), type := y.tt, pos := "save.go:98", after := #[{ on := 1, ground := Ground.data }], guard := none }, { dst := some 12, op := Op.extract (Operand.tmp 9) 0, type := y.ft, pos := "save.go:98", after := #[{ on := 2, ground := Ground.data }], guard := none }, { dst := some 13, op := Op.extract (Operand.tmp 9) 1, type := y.bt, pos := "save.go:98", after := #[{ on := 2, ground := Ground.data }, { on := 6, ground := Ground.gcOnly Departure.lateStores }], guard := none }, { dst := some 4, op := Op.alloc y.ft, type := 0, pos := "save.go:98", after := #[], guard := none }, { dst := none, op := Op.store y.ft (Operand.tmp 4) (Operand.tmp 12), type := 0, pos := "save.go:98", after := #[{ on := 5, ground := Ground.data }, { on := 3, ground := Ground.data }, { on := 0, ground := Ground.phase }, { on := 1, ground := Ground.phase }, { on := 2, ground := Ground.phase }, { on := 3, ground := Ground.phase }, { on := 4, ground := Ground.textOnly Departure.lateStores }, { on := 5, ground := Ground.phase }], guard := none }, { dst := some 5, op := Op.assign (Operand.tmp 13), type := y.bt, pos := "save.go:98", after := #[{ on := 4, ground := Ground.data }, { on := 6, ground := Ground.chain }, { on := 0, ground := Ground.phase }, { on := 1, ground := Ground.phase }, { on := 2, ground := Ground.phase }, { on := 3, ground := Ground.phase }, { on := 4, ground := Ground.phase }, { on := 5, ground := Ground.phase }, { on := 6, ground := Ground.phase }], guard := none }]
def recOps3 (y : RecTy) : Array Oper := #[{ dst := some 14, op := Op.move (Operand.tmp 5), type := y.bt, pos := "save.go:99", after := #[], guard := none }, { dst := some 15, op := Op.unOp UnOp.not y.bt (Operand.tmp 14), type := y.bt, pos := "save.go:99", after := #[{ on := 0, ground := Ground.data }], guard := none }]
def recOps4 (y : RecTy) : Array Oper := #[{ dst := some 16, op := Op.move (Operand.tmp 3), type := y.jt, pos := "save.go:100", after := #[], guard := none }, { dst := none, op := Op.panic (Operand.tmp 16), type := 0, pos := "save.go:100", after := #[{ on := 0, ground := Ground.data }], guard := none }]
def recOps5 (y : RecTy) : Array Oper := #[{ dst := some 17, op := Op.build y.st #[], type := y.st, pos := "save.go:102", after := #[], guard := none }, { dst := some 18, op := Op.fieldAddr y.ft (Operand.tmp 4) 0, type := 0, pos := "save.go:102", after := #[{ on := 4, ground := Ground.gcOnly Departure.lateStores }], guard := none }, { dst := some 19, op := Op.load y.et (Operand.tmp 18), type := y.et, pos := "save.go:102", after := #[{ on := 1, ground := Ground.data }, { on := 4, ground := Ground.gcOnly Departure.lateStores }], guard := none }, { dst := none, op := Op.store y.it (Operand.tmp 0) (Operand.const (Value.int IntKind.i64 0)), type := 0, pos := "save.go:102", after := #[{ on := 0, ground := Ground.textOnly Departure.lateStoresUnsure }, { on := 1, ground := Ground.textOnly Departure.lateStores }, { on := 2, ground := Ground.textOnly Departure.lateStores }], guard := none }, { dst := none, op := Op.store y.st (Operand.tmp 1) (Operand.tmp 17), type := 0, pos := "save.go:102", after := #[{ on := 0, ground := Ground.data }, { on := 3, ground := Ground.chain }, { on := 0, ground := Ground.phase }, { on := 1, ground := Ground.textOnly Departure.lateStores }, { on := 2, ground := Ground.textOnly Departure.lateStores }, { on := 3, ground := Ground.phase }], guard := none }, { dst := none, op := Op.store y.et (Operand.tmp 2) (Operand.tmp 19), type := 0, pos := "save.go:102", after := #[{ on := 2, ground := Ground.data }, { on := 4, ground := Ground.chain }, { on := 0, ground := Ground.phase }, { on := 1, ground := Ground.phase }, { on := 2, ground := Ground.phase }, { on := 3, ground := Ground.phase }, { on := 4, ground := Ground.phase }], guard := none }]
def mustCode (y : RecTy) : Code := (Code.region 0 (mustOps0 y) false).seq (Code.cond (Operand.tmp 5) (Code.region 1 (mustOps1 y) false) Code.skip)
def recTail1 (y : RecTy) : Code := (Code.region 3 (recOps3 y) false).seq (Code.cond (Operand.tmp 15) (Code.region 4 (recOps4 y) false) Code.skip)
def recTail (y : RecTy) : Code := (recTail1 y).seq (Code.region 5 (recOps5 y) true)
def recCode (y : RecTy) : Code := (Code.region 0 (recOps0 y) false).seq ((Code.region 1 (recOps1 y) false).seq (Code.cond (Operand.tmp 8) ((Code.region 2 (recOps2 y) false).seq (recTail y)) Code.skip))
def faultV (y : RecTy) (n : Int) : Value := .iface y.ft (.agg #[.int .i64 n])
section
variable {P : Program} {y : RecTy}
theorem ops_val {ops : Array Oper} {Q : Exit → Act → World → Prop} {i : Nat} {rest : List Nat} {a : Act} {w w' : World} {o : Oper} {v : Value} (ho : ops[i]? = some o) (hg : o.guard = none)
    (hrun : (execOp a.eval o).run P w = .ok (.value v) w') (h : wpOps P ops Q rest (a.put o.dst v) w') : wpOps P ops Q (i :: rest) a w := by
  rw [wpOps_cons]
  unfold wpOp
  rw [ho]
  have hw : Region.wanted o (yielded ops a.tmps) = true := by unfold Region.wanted; rw [hg]
  simp only
  rw [if_pos hw]
  refine .inl ?_
  unfold Oper.wp
  rw [hrun]
  exact h
theorem ops_panic {ops : Array Oper} {Q : Exit → Act → World → Prop} {i : Nat} {rest : List Nat} {a : Act} {w w' : World} {o : Oper} {v : Value} (ho : ops[i]? = some o) (hg : o.guard = none)
    (hrun : (execOp a.eval o).run P w = .halt (.panic v) w') (h : Q (.panic [{ v := v, recovered := false }]) a w') : wpOps P ops Q (i :: rest) a w := by
  rw [wpOps_cons]
  unfold wpOp
  rw [ho]
  have hw : Region.wanted o (yielded ops a.tmps) = true := by unfold Region.wanted; rw [hg]
  simp only
  rw [if_pos hw]
  refine .inl ?_
  unfold Oper.wp
  rw [hrun]
  exact h
variable {cx : Cx} (hT : ∀ t d, cx.tab t = some d → d.Fits P t)
include hT
theorem fault_build (hft : cx.tab y.ft = some ⟨.struct [(0, y.et)], 1, 8, [.int .i64 0], none⟩) (het : cx.tab y.et = some ⟨.int .i64, 1, 8, [.int .i64 0], some (.int .i64)⟩) (n : Int) (w : World) :
    (Instr.build y.ft #[(0, .int .i64 n)]).run P w = .ok (.agg #[.int .i64 n]) w ∧ ∃ fields, P.underlying y.ft = some (.struct fields) := by
  have F := hT _ _ hft
  obtain ⟨i, z, h1, h2, h3, h4, h5, h6⟩ := F.info
  obtain ⟨fi, _, q1, q2, _⟩ := (hT _ _ het).info
  obtain ⟨fields, hf, hfs⟩ := F.k
  have hzv : (zeroValue y.ft).run P w = .ok z w := by simp [zeroValue, typeInfo, h1, h4]
  have hu : (underlying y.ft).run P w = .ok (.struct fields) w := run_underlying hf w
  obtain ⟨f, rfl, hfo, hft'⟩ : ∃ f : Field, fields = #[f] ∧ f.offset = 0 ∧ f.type = y.et := by
    match hl : fields.toList, hfs with
    | [f], hfs =>
      have e1 : (f.offset, f.type) = (0, y.et) := by simpa using hfs
      exact ⟨f, by apply Array.ext'; simpa using hl, congrArg Prod.fst e1, congrArg Prod.snd e1⟩
    | [], hfs => simp at hfs
    | _ :: _ :: _, hfs => simp at hfs
  have hs : (sizeOf f.type).run P w = .ok 1 w := by rw [hft']; simp [sizeOf, typeInfo, q1, q2]
  have hz : z.cells = #[.int .i64 0] := by apply Array.ext'; simpa using h5
  have hv : (Value.int .i64 n).cells = #[.int .i64 n] := rfl
  refine ⟨?_, _, hf⟩
  simp [Instr.build, hzv, hu, Result.andThen, Sem.run_bind, hs, hfo, hz, Instr.fill, hv]
theorem must_ok {mf : FuncId} {fn : Func} (hf : P.funcs[mf]? = some fn) (hb : fn.body = some (mustCode y)) (hnt : fn.ntmps = 9) (hr : fn.results = #[]) (hname : (fn.name == "runtime.NumGoroutine") = false)
    (hft : cx.tab y.ft = some ⟨.struct [(0, y.et)], 1, 8, [.int .i64 0], none⟩) (het : cx.tab y.et = some ⟨.int .i64, 1, 8, [.int .i64 0], some (.int .i64)⟩) : MustOk P mf (faultV y) := by
  intro b n w
  refine ⟨callFunc_run hf hb hname _ w, fun R h1 h2 => calls_of_wp hf hb ?_⟩
  rw [hnt]
  refine wp_seq (wp_region ?_)
  show wpOps P (mustOps0 y) _ [0, 1] _ w
  refine ops_val (w' := w) (v := .bool b) rfl rfl (by simp [mustOps0, mustOps1, execOp, Act.eval]) ?_
  refine ops_val (w' := w) (v := .bool (!b)) rfl rfl (by simp [mustOps0, mustOps1, execOp, Act.eval, Act.put, Op.unary]) ?_
  show Code.wp P _ _ _ w
  obtain ⟨g1, fields, g2⟩ := fault_build hT hft het n w
  cases b with
  | true =>
    refine wp_cond_false (by simp [mustOps0, Act.eval, Act.put]) (wp_skip ?_)
    obtain ⟨v, ev, hv⟩ := results_run (fn := fn) (vars := []) (tmps := (#[Value.bool true, .int .i64 n] ++ Array.replicate 7 undef).setIfInBounds 4 (.bool true) |>.setIfInBounds 5 (.bool false)) (by simp [hr]) (P := P) (w := w) (vs := []) (by rw [List.mapM_nil]; rfl)
    subst ev
    exact ⟨rfl, _, hv, h1 rfl⟩
  | false =>
    refine wp_cond_true (by simp [mustOps0, Act.eval, Act.put]) (wp_region ?_)
    show wpOps P (mustOps1 y) _ [0, 1, 2, 3] _ w
    refine ops_val (w' := w) (v := .int .i64 n) rfl rfl (by simp [mustOps0, mustOps1, execOp, Act.eval, Act.put]) ?_
    refine ops_val (w' := w) (v := .agg #[.int .i64 n]) rfl rfl (by simp [mustOps0, mustOps1, execOp, Act.eval, Act.put, g1, Result.andThen]) ?_
    refine ops_val (w' := w) (v := faultV y n) rfl rfl (by simp [mustOps0, mustOps1, execOp, Act.eval, Act.put, Instr.makeInterface, run_underlying g2, Result.andThen, faultV]) ?_
    refine ops_panic (w' := w) (v := faultV y n) rfl rfl (by simp [mustOps0, mustOps1, execOp, Act.eval, Act.put, Instr.panic, faultV, goPanic]) ?_
    exact ⟨rfl, h2 rfl⟩
end
section
variable {P : Program} {y : RecTy}
theorem opsS_val {ops : Array Oper} {Q : Exit → Act → List Frame → World → Prop} {i : Nat} {rest : List Nat} {a : Act} {cs : List Frame} {w w' : World} {o : Oper} {v : Value} (ho : ops[i]? = some o) (hg : o.guard = none)
    (hrun : (execOp a.eval o).run P w = .ok (.value v) w') (h : wpOpsS P ops Q rest (a.put o.dst v) cs w') : wpOpsS P ops Q (i :: rest) a cs w := by
  have hw : Region.wanted o (yielded ops a.tmps) = true := by unfold Region.wanted; rw [hg]
  simp only [wpOpsS, ho, hw, if_true, hrun, Oper.upon]
  exact h
theorem opsS_rec {ops : Array Oper} {Q : Exit → Act → List Frame → World → Prop} {i : Nat} {rest : List Nat} {a : Act} {cs cs' : List Frame} {w w' : World} {o : Oper} {v : Value} (ho : ops[i]? = some o) (hg : o.guard = none)
    (hrun : (execOp a.eval o).run P w = .ok .recover w') (hr : recoverD cs = some (v, cs')) (h : wpOpsS P ops Q rest (a.put o.dst v) cs' w') : wpOpsS P ops Q (i :: rest) a cs w := by
  have hw : Region.wanted o (yielded ops a.tmps) = true := by unfold Region.wanted; rw [hg]
  simp only [wpOpsS, ho, hw, if_true, hrun, hr]
  exact h
theorem opsS_rec0 {ops : Array Oper} {Q : Exit → Act → List Frame → World → Prop} {i : Nat} {rest : List Nat} {a : Act} {cs : List Frame} {w w' : World} {o : Oper} (ho : ops[i]? = some o) (hg : o.guard = none)
    (hrun : (execOp a.eval o).run P w = .ok .recover w') (hr : recoverD cs = none) (h : wpOpsS P ops Q rest (a.put o.dst .nilIface) cs w') : wpOpsS P ops Q (i :: rest) a cs w := by
  have hw : Region.wanted o (yielded ops a.tmps) = true := by unfold Region.wanted; rw [hg]
  simp only [wpOpsS, ho, hw, if_true, hrun, hr]
  exact h
theorem no_results {fn : Func} (hr : fn.results = #[]) (tmps : Array Value) (w : World) : (results fn tmps).run P w = .ok (.tuple #[]) w := by
  obtain ⟨v, ev, hv⟩ := results_run (fn := fn) (vars := []) (tmps := tmps) (by simp [hr]) (P := P) (w := w) (vs := []) (by rw [List.mapM_nil]; rfl)
  subst ev
  exact hv
theorem eq_nil (hj : P.underlying y.jt = some (.interface #[])) (w : World) : (Op.equal y.jt .nilIface .nilIface).run P w = .ok true w := by
  obtain ⟨d, hd⟩ : ∃ d, Op.maxDepth = d + 1 := ⟨9999, rfl⟩
  unfold Op.equal
  rw [hd]
  simp [Op.equalIn, run_underlying hj, Result.andThen]
theorem eq_ifc (hj : P.underlying y.jt = some (.interface #[])) (t : TypeId) (v : Value) (w : World) : (Op.equal y.jt (.iface t v) .nilIface).run P w = .ok false w := by
  obtain ⟨d, hd⟩ : ∃ d, Op.maxDepth = d + 1 := ⟨9999, rfl⟩
  unfold Op.equal
  rw [hd]
  simp [Op.equalIn, run_underlying hj, Result.andThen]
theorem rec_none {f : FuncId} {fn : Func} (hf : P.funcs[f]? = some fn) (hb : fn.body = some (recCode y)) (hnt : fn.ntmps = 20) (hr : fn.results = #[]) {u0 u1 u2 : Value} {w : World} (hj : P.underlying y.jt = some (.interface #[])) :
    CallsD P f #[u0, u1, u2] .returning w fun e u' w' => e = .returned (.tuple #[]) ∧ u' = .returning ∧ w' = w := by
  refine callsD_of_wpS hf hb fun c₀ cs hm => wpS_seq (wpS_region ?_)
  rw [hnt]
  show wpOpsS P (recOps0 y) _ [0, 1] _ _ w
  refine opsS_rec0 (w' := w) rfl rfl (by simp [recOps0, execOp, resolve, invoke, builtin]) (by simp [recoverD, hm]) ?_
  refine opsS_val (w' := w) (v := .nilIface) rfl rfl (by simp [recOps0, execOp, Act.eval, Act.put]) ?_
  refine wpS_of_wp (wp_seq (wp_region ?_))
  show wpOps P (recOps1 y) _ [0, 1] _ w
  refine ops_val (w' := w) (v := .nilIface) rfl rfl (by simp [recOps0, recOps1, execOp, Act.eval, Act.put]) ?_
  refine ops_val (w' := w) (v := .bool false) rfl rfl (by simp [recOps0, recOps1, execOp, Act.eval, Act.put, eqGuard, binOp, eq_nil hj, Result.andThen]) ?_
  refine wp_cond_false (by simp [recOps0, recOps1, Act.eval, Act.put]) (wp_skip ?_)
  exact ⟨rfl, c₀.mode, rfl, _, no_results hr _ _, rfl, hm, rfl⟩
def recEnv (p q r : EV) (n : Int) : List EV :=
  [p, q, r, .x (.one .junk), .x (.one .junk), .x (.one .junk), .x (.one .junk), .x (.one .junk), .x (.one .junk), .x (.one .junk), .x (.one .junk), .x (.one .junk), .x (.agg [.val (.int .i64 n)]), .val (.bool true),
    .x (.one .junk), .x (.one .junk), .x (.one .junk), .x (.one .junk), .x (.one .junk), .x (.one .junk)]
def recHn : Hn := { loops := fun _ => none, joins := fun _ => none }
def recEval (cx : Cx) (y : RecTy) (p q r : EV) (n : Int) (h : List HObj) (k : List HObj → Prop) : Prop :=
  runOps cx recHn.wk noCall (recOps2 y) ((recOps2 y).toList.drop 5) (recEnv p q r n) (h ++ [.pend]) h.length fun env h => aeval cx recHn noCall (recTail1 y) env h fun e env h => match e with
    | .normal => takeR cx recHn.wk noCall (recOps5 y) [0, 1] env h fun _ h => k h
    | _ => False
theorem rec_tail {cx : Cx} (hx : CxOk P cx) (hmix : P.follows .mixedOrders = true) {c : RC} (hi : c.Inv) (hg : GOk cx.glob c) {p q r : EV} {n : Int} {k : List HObj → Prop}
    (h : recEval cx y p q r n c.heap k) {Q : Exit → Act → World → Prop} {a : Act} (hE : EnvRel c (recEnv p q r n) a.tmps) (ha : a.defers = [])
    (hq : ∀ (c' : RC) (a' : Act), a'.defers = [] → k c'.heap → Ext c c' → c'.Inv → Q .normal a' c'.w) :
    wpOps P (recOps2 y) (Exit.then ((recTail y).wp P Q) Q) [5, 6, 7] a c.w := by
  unfold recEval at h
  have hD2 : ∀ o ∈ (recOps2 y).toList.drop 5, ∀ t, o.dst = some t → t ∈ [0, 1, 2, 3, 4, 5, 6, 7, 8, 9, 10, 11, 12, 13, 14, 15, 16, 17, 18, 19] := by
    intro o ho t ht
    simp [recOps2] at ho
    rcases ho with rfl | rfl | rfl <;> simp at ht <;> subst ht <;> decide
  have hDt : ∀ t ∈ dsts (recTail1 y), t ∈ [0, 1, 2, 3, 4, 5, 6, 7, 8, 9, 10, 11, 12, 13, 14, 15, 16, 17, 18, 19] := by
    intro t ht
    have : t ∈ [14, 15, 16] := ht
    revert this; simp; omega
  have hD5 : ∀ o ∈ (recOps5 y).toList, ∀ t, o.dst = some t → t ∈ [0, 1, 2, 3, 4, 5, 6, 7, 8, 9, 10, 11, 12, 13, 14, 15, 16, 17, 18, 19] := by
    intro o ho t ht
    simp [recOps5] at ho
    rcases ho with rfl | rfl | rfl | rfl | rfl | rfl <;> simp at ht <;> subst ht <;> decide
  obtain ⟨E1, I1⟩ := Ext.pends hi 1
  refine runOps_sound hx noCall_ok (wk := recHn.wk) (recOps2 y) ((recOps2 y).toList.drop 5) 5 rfl hD2 (c := { c with heap := c.heap ++ [.pend] }) I1 (a := a) (GOk.mono hg E1) (EnvRel.mono hE E1) (tgt := c.heap.length)
      (fun i hi => by
        have : i < 1 := hi
        obtain rfl : i = 0 := by omega
        simp) h (fun c2 env2 a2 k1 k2 k3 k4 k5 => ?_)
  refine wp_seq (aeval_sound hx hmix recHn noCall_ok (recTail1 y) hDt k3 (GOk.mono (GOk.mono hg E1) k2) k4 k1 fun e c3 env3 a3 g1 g2 g3 g4 g5 => ?_)
  cases e with
  | normal =>
    refine wp_region_any hmix ?_
    have E3 := Ext.grows (c := c3) (Grows.drew c3.w)
    have any := take_sound hx noCall_ok (wk := recHn.wk) hD5 (c := { c3 with w := c3.w.drew }) (RC.Inv.grows g3 (Grows.drew c3.w)) (GOk.mono (GOk.mono (GOk.mono (GOk.mono hg E1) k2) g2) E3) (EnvRel.mono g4 E3) (k := fun _ h => k h) (K := Q .normal) (fun c4 env4 a4 q1 q2 q3 q4 q5 =>
      hq c4 a4 (q5.defers.trans (g5.defers.trans (k5.defers.trans ha))) q1 (E1.trans (k2.trans (g2.trans (E3.trans q2)))) q3) g1
    exact wpAny_only any
  | _ => exact g1.elim
theorem getD_set {T : Array Value} {i j : Nat} {v d : Value} : (T.setIfInBounds i v).getD j d = if i = j ∧ i < T.size then v else T.getD j d := by
  simp only [Array.getD_eq_getD_getElem?, Array.getElem?_setIfInBounds]
  by_cases e : i = j
  · subst e
    by_cases l : i < T.size
    · simp [l]
    · simp [l]
  · simp [e]
theorem ops_valT {ops : Array Oper} {Q : Exit → Act → World → Prop} {i : Nat} {rest : List Nat} {T : Array Value} {ds : List Deferred} {w w' : World} {o : Oper} {d : Tmp} {v : Value} (ho : ops[i]? = some o) (hg : o.guard = none) (hd : o.dst = some d)
    (hrun : (execOp (Act.eval ⟨T, ds⟩) o).run P w = .ok (.value v) w') (h : ∀ T', T' = T.setIfInBounds d v → wpOps P ops Q rest ⟨T', ds⟩ w') : wpOps P ops Q (i :: rest) ⟨T, ds⟩ w := by
  refine ops_val ho hg hrun ?_
  have := h _ rfl
  rw [hd]
  exact this
theorem opsS_valT {ops : Array Oper} {Q : Exit → Act → List Frame → World → Prop} {i : Nat} {rest : List Nat} {T : Array Value} {ds : List Deferred} {cs : List Frame} {w w' : World} {o : Oper} {d : Tmp} {v : Value} (ho : ops[i]? = some o) (hg : o.guard = none) (hd : o.dst = some d)
    (hrun : (execOp (Act.eval ⟨T, ds⟩) o).run P w = .ok (.value v) w') (h : ∀ T', T' = T.setIfInBounds d v → wpOpsS P ops Q rest ⟨T', ds⟩ cs w') : wpOpsS P ops Q (i :: rest) ⟨T, ds⟩ cs w := by
  refine opsS_val ho hg hrun ?_
  have := h _ rfl
  rw [hd]
  exact this
theorem opsS_recT {ops : Array Oper} {Q : Exit → Act → List Frame → World → Prop} {i : Nat} {rest : List Nat} {T : Array Value} {ds : List Deferred} {cs cs' : List Frame} {w w' : World} {o : Oper} {d : Tmp} {v : Value} (ho : ops[i]? = some o) (hg : o.guard = none) (hd : o.dst = some d)
    (hrun : (execOp (Act.eval ⟨T, ds⟩) o).run P w = .ok .recover w') (hr : recoverD cs = some (v, cs')) (h : ∀ T', T' = T.setIfInBounds d v → wpOpsS P ops Q rest ⟨T', ds⟩ cs' w') : wpOpsS P ops Q (i :: rest) ⟨T, ds⟩ cs w := by
  refine opsS_rec ho hg hrun hr ?_
  have := h _ rfl
  rw [hd]
  exact this
theorem rec_r1 (hj : P.underlying y.jt = some (.interface #[])) {T : Array Value} {n : Int} (hs : T.size = 20) (h3 : T.getD 3 undef = faultV y n) {Q : Exit → Act → World → Prop} {w : World}
    (h : ∀ T', T' = (T.setIfInBounds 7 (faultV y n)).setIfInBounds 8 (.bool true) → Q .normal ⟨T', []⟩ w) : wpOps P (recOps1 y) Q [0, 1] ⟨T, []⟩ w := by
  refine ops_valT (w' := w) (v := faultV y n) (d := 7) rfl rfl rfl ?_ fun T1 e1 => ?_
  · show ((pure (.value (T.getD 3 undef)) : Sem Next)).run P w = _
    rw [h3]; rfl
  have h7 : T1.getD 7 undef = faultV y n := by rw [e1, getD_set, if_pos ⟨rfl, by omega⟩]
  refine ops_valT (w' := w) (v := .bool true) (d := 8) rfl rfl rfl ?_ fun T2 e2 => ?_
  · simp only [Array.getD_eq_getD_getElem?] at h7
    simp [recOps1, execOp, Act.eval, h7, eqGuard, binOp, eq_ifc hj, Result.andThen, faultV]
  · exact h T2 (by rw [e2, e1])
theorem rec_r2 {fields : Array Field} (hfd : P.underlying y.ft = some (.struct fields)) {T : Array Value} {n : Int} (hs : T.size = 20) (h3 : T.getD 3 undef = faultV y n) {Q : Exit → Act → World → Prop} {w : World}
    (h : ∀ T', T' = ((((T.setIfInBounds 10 (faultV y n)).setIfInBounds 11 (.tuple #[.agg #[.int .i64 n], .bool true])).setIfInBounds 9 (.tuple #[.agg #[.int .i64 n], .bool true])).setIfInBounds 12 (.agg #[.int .i64 n])).setIfInBounds 13 (.bool true) → wpOps P (recOps2 y) Q [5, 6, 7] ⟨T', []⟩ w) :
    wpOps P (recOps2 y) Q [0, 1, 2, 3, 4, 5, 6, 7] ⟨T, []⟩ w := by
  refine ops_valT (w' := w) (v := faultV y n) (d := 10) rfl rfl rfl ?_ fun T1 e1 => ?_
  · show ((pure (.value (T.getD 3 undef)) : Sem Next)).run P w = _
    rw [h3]; rfl
  have s1 : T1.size = 20 := by rw [e1]; simpa using hs
  have h10 : T1.getD 10 undef = faultV y n := by rw [e1, getD_set, if_pos ⟨rfl, by omega⟩]
  refine ops_valT (w' := w) (v := .tuple #[.agg #[.int .i64 n], .bool true]) (d := 11) rfl rfl rfl ?_ fun T2 e2 => ?_
  · show ((do pure (.value (← Instr.typeAssert (T1.getD 10 undef) y.jt y.ft true)) : Sem Next)).run P w = _
    rw [h10]
    simp [Instr.typeAssert, run_underlying hfd, Result.andThen, faultV]
  have s2 : T2.size = 20 := by rw [e2]; simpa using s1
  have h11 : T2.getD 11 undef = .tuple #[.agg #[.int .i64 n], .bool true] := by rw [e2, getD_set, if_pos ⟨rfl, by omega⟩]
  refine ops_valT (w' := w) (v := .tuple #[.agg #[.int .i64 n], .bool true]) (d := 9) rfl rfl rfl ?_ fun T3 e3 => ?_
  · show ((pure (.value (T2.getD 11 undef)) : Sem Next)).run P w = _
    rw [h11]; rfl
  have s3 : T3.size = 20 := by rw [e3]; simpa using s2
  have h9 : T3.getD 9 undef = .tuple #[.agg #[.int .i64 n], .bool true] := by rw [e3, getD_set, if_pos ⟨rfl, by omega⟩]
  refine ops_valT (w' := w) (v := .agg #[.int .i64 n]) (d := 12) rfl rfl rfl ?_ fun T4 e4 => ?_
  · show ((do pure (.value (← Instr.extract (T3.getD 9 undef) 0)) : Sem Next)).run P w = _
    rw [h9]; rfl
  have s4 : T4.size = 20 := by rw [e4]; simpa using s3
  have h9' : T4.getD 9 undef = .tuple #[.agg #[.int .i64 n], .bool true] := by rw [e4, getD_set, if_neg (by simp)]; exact h9
  refine ops_valT (w' := w) (v := .bool true) (d := 13) rfl rfl rfl ?_ fun T5 e5 => ?_
  · show ((do pure (.value (← Instr.extract (T4.getD 9 undef) 1)) : Sem Next)).run P w = _
    rw [h9']; rfl
  exact h T5 (by rw [e5, e4, e3, e2, e1])
theorem rec_some {cx : Cx} (hx : CxOk P cx) (hmix : P.follows .mixedOrders = true) {f : FuncId} {fn : Func} (hf : P.funcs[f]? = some fn) (hb : fn.body = some (recCode y)) (hnt : fn.ntmps = 20) (hr : fn.results = #[]) (hj : P.underlying y.jt = some (.interface #[]))
    (hft : cx.tab y.ft = some ⟨.struct [(0, y.et)], 1, 8, [.int .i64 0], none⟩) {c : RC} (hi : c.Inv) (hg : GOk cx.glob c) {p q r : EV} {u0 u1 u2 : Value} (h0 : p.rel c u0) (h1 : q.rel c u1) (h2 : r.rel c u2) {n : Int} {k : List HObj → Prop}
    (h : recEval cx y p q r n c.heap k) :
    CallsD P f #[u0, u1, u2] (.panicking [{ v := faultV y n, recovered := false }]) c.w fun e u' w' => e = .returned (.tuple #[]) ∧ u' = .panicking [{ v := faultV y n, recovered := true }] ∧ ∃ c', w' = c'.w ∧ k c'.heap ∧ Ext c c' ∧ c'.Inv := by
  refine callsD_of_wpS hf hb fun c₀ cs hm => wpS_seq (wpS_region ?_)
  rw [hnt]
  show wpOpsS P (recOps0 y) _ [0, 1] _ _ c.w
  obtain ⟨T0, e0, hs0⟩ : ∃ T0 : Array Value, T0 = #[u0, u1, u2] ++ Array.replicate 17 undef ∧ T0.size = 20 := ⟨_, rfl, by simp⟩
  show wpOpsS P (recOps0 y) _ [0, 1] ⟨#[u0, u1, u2] ++ Array.replicate 17 undef, []⟩ _ c.w
  rw [← e0]
  refine opsS_recT (w' := c.w) (v := faultV y n) (d := 6) (cs' := { c₀ with mode := .panicking [{ v := faultV y n, recovered := true }] } :: cs) rfl rfl rfl (by simp [recOps0, execOp, resolve, invoke, builtin]) (by simp [recoverD, hm]) fun Ta ea => ?_
  have h6 : Ta.getD 6 undef = faultV y n := by rw [ea, getD_set, if_pos ⟨rfl, by omega⟩]
  refine opsS_valT (w' := c.w) (v := faultV y n) (d := 3) rfl rfl rfl ?_ fun T hT' => ?_
  · show ((pure (.value (Ta.getD 6 undef)) : Sem Next)).run P c.w = _
    rw [h6]; rfl
  have hTs : T.size = 20 := by rw [hT', ea]; simpa using hs0
  have hT3 : T.getD 3 undef = faultV y n := by rw [hT', getD_set, if_pos ⟨rfl, by rw [ea]; simp [hs0]⟩]
  have hT : T = ((#[u0, u1, u2] ++ Array.replicate 17 undef).setIfInBounds 6 (faultV y n)).setIfInBounds 3 (faultV y n) := by rw [hT', ea, e0]
  clear hT' ea e0 h6
  refine wpS_of_wp (wp_seq (wp_region ?_))
  show wpOps P (recOps1 y) _ [0, 1] _ c.w
  refine rec_r1 hj hTs hT3 fun T1 e1 => ?_
  have s1 : T1.size = 20 := by rw [e1]; simpa using hTs
  have h8 : T1.getD 8 undef = .bool true := by rw [e1, getD_set, if_pos ⟨rfl, by simp; omega⟩]
  have h3 : T1.getD 3 undef = faultV y n := by rw [e1, getD_set, if_neg (by simp), getD_set, if_neg (by simp)]; exact hT3
  refine wp_cond_true h8 (wp_seq (wp_region ?_))
  show wpOps P (recOps2 y) _ [0, 1, 2, 3, 4, 5, 6, 7] _ c.w
  obtain ⟨fields, hfd, _⟩ := (hx.1 _ _ hft).k
  refine rec_r2 hfd s1 h3 fun T2 e2 => ?_
  refine rec_tail hx hmix hi hg h ?_ rfl (fun c' a' g1 g2 g3 g4 => ⟨g1, _, rfl, _, no_results hr _ _, rfl, rfl, c', rfl, g2, g3, g4⟩)
  show EnvRel c _ T2
  rw [e2, e1, hT]
  clear e2 e1 hT h3 h8 s1 hT3 hTs
  have hAll : All2 (EV.rel c) (recEnv p q r n) [u0, u1, u2, faultV y n, undef, undef, faultV y n, faultV y n, .bool true, .tuple #[.agg #[.int .i64 n], .bool true], faultV y n, .tuple #[.agg #[.int .i64 n], .bool true], .agg #[.int .i64 n], .bool true, undef, undef, undef, undef, undef, undef] :=
    .cons h0 (.cons h1 (.cons h2 (.cons trivial (.cons trivial (.cons trivial (.cons trivial (.cons trivial (.cons trivial (.cons trivial (.cons trivial (.cons trivial (.cons ⟨_, rfl, .cons rfl .nil⟩ (.cons rfl (.cons trivial (.cons trivial (.cons trivial (.cons trivial (.cons trivial (.cons trivial .nil)))))))))))))))))))
  refine ⟨by simp [recEnv], fun t e ht => ?_⟩
  obtain ⟨v, g1, g2⟩ := hAll.get t e ht
  refine ⟨v, ?_, g2⟩
  rw [← Array.getElem?_toList]
  simp only [Array.toList_setIfInBounds, Array.toList_append, Array.toList_replicate]
  exact g1
end
end Go.Lift

set_option linter.unusedVariables false
set_option linter.unusedSimpArgs false
set_option linter.unusedSectionVars false
namespace Go.Lift
def deferOf (df : FuncId) (ops : List Oper) : Option (Nat × Operand × Operand × Operand) := match ops with
  | [o1, o2] => match o1.dst, o1.guard, o1.op with
    | some t, none, .makeFunc (.func f) a b => match o2.dst, o2.guard, o2.op with
      | none, none, .defer cl => match a.toList, b.toList, cl.callee, cl.args.toList with
        | [], [x, y, z], .value (.tmp t'), [] => if f = df then (if t' = t then some (t, x, y, z) else none) else none
        | _, _, _, _ => none
      | _, _, _ => none
    | _, _, _ => none
  | _ => none
def gaveN (ft : TypeId) : List PanicEntry → Option Int
  | [{ v := .iface t (.agg cs), recovered := false, goexit := false }] => if t = ft then (match cs.toList with
    | [.int .i64 n] => some n
    | _ => none) else none
  | _ => none
theorem gaveN_spec {y : RecTy} {ch : List PanicEntry} {n : Int} (h : gaveN y.ft ch = some n) : ch = [{ v := faultV y n, recovered := false }] := by
  unfold gaveN at h
  split at h
  · rename_i t cs
    split at h
    · rename_i e
      subst e
      split at h
      · rename_i hc
        cases h
        have : cs = #[.int .i64 n] := by apply Array.ext'; simpa using hc
        subst this
        rfl
      · cases h
    · cases h
  · cases h
theorem ops_defer {P : Program} {ops : Array Oper} {Q : Exit → Act → World → Prop} {i : Nat} {rest : List Nat} {a : Act} {w w' : World} {o : Oper} {d : Deferred} (ho : ops[i]? = some o) (hg : o.guard = none)
    (hrun : (execOp a.eval o).run P w = .ok (.defer d) w') (h : wpOps P ops Q rest ({ a with defers := d :: a.defers }.put o.dst undef) w') : wpOps P ops Q (i :: rest) a w := by
  rw [wpOps_cons]
  unfold wpOp
  rw [ho]
  have hw : Region.wanted o (yielded ops a.tmps) = true := by unfold Region.wanted; rw [hg]
  simp only
  rw [if_pos hw]
  refine .inl ?_
  unfold Oper.wp
  rw [hrun]
  exact h
def finD (cx : Cx) (vars : List ResultVar) (rs : List RK) (post : RS rs → Prop) (env : List EV) (h : List HObj) : Prop := outs cx env (exitH env vars rs h) vars rs fun r m => if distB (srcs m) then post r else False
def fnEvalD (cx : Cx) (hn : Hn) (call : CallEv) (tk : Tks) (mf df : FuncId) (y : RecTy) (nt : Nat) (vars : List ResultVar) (code : Code) (ks : List K) (rs : List RK) (x : KS ks) (post : RS rs → Prop) : Prop := match code with
  | .seq a (.seq (.region _ ops false) rest) => match deferOf df ops.toList with
    | some (t, u, v, w) => if Nat.blt t nt then aeval cx hn call a (argsE ks x ++ List.replicate (nt - ks.length) (.x (.one .junk))) [] fun e env h => match e with
      | .normal => aevalD cx hn call tk mf (faultV y) rest (env.set t .junk) h fun e env2 h => match e with
        | .normal | .ret => finD cx vars rs post env2 h
        | .panic ch => match gaveN y.ft ch with
          | some n => recEval cx y (cx.eval env u) (cx.eval env v) (cx.eval env w) n h fun h => finD cx vars rs post env2 h
          | none => False
        | _ => False
      | _ => False else False
    | none => False
  | _ => False
section
variable {P : Program} {cx : Cx} (hx : CxOk P cx) (hmix : P.follows .mixedOrders = true) (hn : Hn) {call : CallEv} (hcall : CallOk P cx call) {tk : Tks} {mf df : FuncId} {y : RecTy} (hm : MustOk P mf (faultV y))
  {fd : Func} (hdf : P.funcs[df]? = some fd) (hdb : fd.body = some (recCode y)) (hdn : fd.ntmps = 20) (hdr : fd.results = #[]) (hdm : (fd.name == "runtime.NumGoroutine") = false) (hj : P.underlying y.jt = some (.interface #[]))
  (hft : cx.tab y.ft = some ⟨.struct [(0, y.et)], 1, 8, [.int .i64 0], none⟩)
include hx hmix hcall hm hdf hdb hdn hdr hdm hj hft
theorem fn_specD {f : FuncId} {nt : Nat} {vars : List ResultVar} {code : Code} (hf : FnAt P f nt vars code) {ks : List K} {rs : List RK} {w : World} {ok : Nat → Prop} (hok0 : ∀ b, ok b → b < w.heap.size) {x : KS ks} {vs : List Value} (ha : ArgsRep w ok ks x vs) (hg : GW cx.glob w ok)
    {post : RS rs → Prop} (h : fnEvalD cx hn call tk mf df y nt vars code ks rs x post) : CallSpec P f vs.toArray w fun v w' => ∃ r, post r ∧ Grows w w' ∧ ResRep w w' ok rs r v := by
  obtain ⟨fn, h1, h2, h3, h4, h5⟩ := hf.ex
  refine .inr ⟨callFunc_run h1 h2 h5 _ _, calls_of_wp_defers h1 h2 ?_⟩
  let c0 : RC := { w := w, heap := [], blk := fun _ => none, base := w.heap.size, inb := ok }
  have hown : ∀ b, ¬ c0.own b := by rintro b ⟨id, o, m, h, _⟩; simp [c0] at h
  have hok : ∀ b, ok b → c0.ok b := fun b hb => ⟨hok0 b hb, hown b, .inr hb⟩
  have hi : c0.Inv := ⟨fun id o h => by simp [c0] at h, fun i j oi oj b h => by simp [c0] at h, fun id o b h => by simp [c0] at h, Nat.le_refl _⟩
  have hG : GOk cx.glob c0 := fun g k y hgk => K.rep_mono (fun b hb => ⟨hok b hb, rfl⟩) (K.ptr k) _ _ (hg g k y hgk)
  obtain ⟨he, hl⟩ := argsE_rel (c := c0) rfl hok ks x vs ha
  have hE : EnvRel c0 (argsE ks x ++ List.replicate (nt - ks.length) (.x (.one .junk))) (vs.toArray ++ Array.replicate (fn.ntmps - vs.toArray.size) undef) := by
    have := enter_rel he fn.ntmps
    rw [h3] at this
    have e1 : (argsE ks x).length = ks.length := he.len.trans hl
    rw [e1] at this
    rw [h3]
    exact this
  have fin : ∀ {c' : RC} {env' : List EV} {tmps : Array Value}, Ext c0 c' → c'.Inv → EnvRel c' env' tmps → finD cx vars rs post env' c'.heap →
      ∃ v, (results fn tmps).run P c'.w = .ok v c'.w ∧ ∃ u, Ending.returned v = Ending.returned u ∧ ∃ r, post r ∧ Grows w c'.w ∧ ResRep w c'.w ok rs r u := by
    intro c' env' tmps k2 k3 k4 hout
    obtain ⟨E2, I2⟩ := Frz.ext k3 (exitH_frz env' vars rs c'.heap)
    obtain ⟨r, m, obs, us, g1, g2, g3, g4⟩ := outs_rep (c := { c' with heap := exitH env' vars rs c'.heap }) (w := w) hx.1 I2 (by show w.heap.size ≤ c'.base; rw [k2.base]; exact Nat.le_refl _) (EnvRel.mono k4 E2) vars rs hout
    split at g1
    · rename_i hd
      obtain ⟨v, ev, hv⟩ := results_run h4 g4
      refine ⟨v, hv, _, rfl, r, g1, ?_, us, obs, ev, ?_, g3 _ fun b hb => ?_⟩
      · exact ⟨k2.size, k2.os, k2.tape, k2.output, fun b hb => k2.keep b hb (fun hw => hown b hw.own)⟩
      · intro i j b hb1 hb2
        obtain ⟨id1, o1, p1, p2, p3, p4⟩ := g2.2 i b hb1
        obtain ⟨id2, o2, q1, q2, q3, q4⟩ := g2.2 j b hb2
        have := I2.inj id1 id2 o1 o2 b p2 (HObj.live_of_md p3) q2 (HObj.live_of_md q3) p4 q4
        subst this
        exact srcs_dist hd i j id1 o1 o2 p1 q1
      · obtain ⟨b1, b2, b3⟩ := hb
        rcases b3 with b3 | b3
        · refine .inl ⟨by have := b3; rw [show RC.base { c' with heap := exitH env' vars rs c'.heap } = c0.base from k2.base] at this; exact this, b1, fun hm => b2 ?_⟩
          obtain ⟨i, hi'⟩ := List.mem_iff_getElem?.1 hm
          obtain ⟨id1, o1, p1, p2, p3, p4⟩ := g2.2 i b hi'
          exact ⟨id1, o1, .rw, p2, p3, by simp, p4⟩
        · exact .inr (by rw [show RC.inb { c' with heap := exitH env' vars rs c'.heap } = c0.inb from k2.inb] at b3; exact b3)
    · exact g1.elim
  unfold fnEvalD at h
  split at h
  rotate_left
  · exact h.elim
  rename_i a id ops rest
  split at h
  rotate_left
  · exact h.elim
  rename_i t u0 u1 u2 hdo
  split at h
  rotate_left
  · exact h.elim
  rename_i hbl
  refine wp_seq (aeval_sound hx hmix hn hcall a (D := dsts a) (fun t h => h) hi (a := ⟨_, []⟩) hG hE h fun e c1 env1 a1 k1 k2 k3 k4 k5 => ?_)
  cases e with
  | normal => ?_
  | exit id => exact k1.elim
  | goto l => exact k1.elim
  | ret => exact k1.elim
  | panic ch => exact k1.elim
  | outgrown => exact k1.elim
  unfold deferOf at hdo
  split at hdo
  rotate_left
  · cases hdo
  rename_i o1 o2 hops
  split at hdo
  rotate_left
  · cases hdo
  rename_i t1 f1 fa fb hd1 hg1 hp1
  split at hdo
  rotate_left
  · cases hdo
  rename_i cl hd2 hg2 hp2
  split at hdo
  rotate_left
  · cases hdo
  rename_i x0 x1 x2 t2 ea eb ec ed
  split at hdo
  rotate_left
  · cases hdo
  rename_i ef
  split at hdo
  rotate_left
  · cases hdo
  rename_i et
  subst ef; subst et
  cases hdo
  obtain rfl : ops = #[o1, o2] := by apply Array.ext'; simpa using hops
  obtain rfl : fa = #[] := by apply Array.ext'; simpa using ea
  obtain rfl : fb = #[u0, u1, u2] := by apply Array.ext'; simpa using eb
  have ecl : cl.args = #[] := by apply Array.ext'; simpa using ed
  have hG1 := GOk.mono hG k2
  have r0 := eval_rel hG1 k4 u0
  have r1 := eval_rel hG1 k4 u1
  have r2 := eval_rel hG1 k4 u2
  refine wp_seq (wp_region ?_)
  show wpOps P #[o1, o2] _ [0, 1] a1 c1.w
  refine ops_val (o := o1) (w' := c1.w) (v := .func (.func f1) #[] #[a1.eval u0, a1.eval u1, a1.eval u2]) rfl hg1 (by simp [execOp, hp1, Instr.makeFunc]) ?_
  rw [hd1]
  have hsz : a1.tmps.size = (argsE ks x ++ List.replicate (nt - ks.length) (EV.x (.one .junk))).length := by rw [k5.size]; exact hE.1.symm
  have hin : t < a1.tmps.size := by
    rw [hsz]
    have := Nat.le_of_ble_eq_true hbl
    simp only [List.length_append, List.length_replicate, he.len, hl]
    omega
  · have hev : (a1.put (some t) (.func (.func f1) #[] #[a1.eval u0, a1.eval u1, a1.eval u2])).eval (.tmp t) = .func (.func f1) #[] #[a1.eval u0, a1.eval u1, a1.eval u2] := by
      show (a1.tmps.setIfInBounds t _).getD t undef = _
      rw [getD_set, if_pos ⟨rfl, hin⟩]
    refine ops_defer (o := o2) (w' := c1.w) (d := { target := .fn (.func f1) #[a1.eval u0, a1.eval u1, a1.eval u2], args := #[] }) rfl hg2 (by
      simp [execOp, hp2, resolve, ec, ecl, hev, Deferred.ofValue]) ?_
    rw [hd2]
    have hE2 : EnvRel c1 (env1.set t .junk) (a1.put (some t) (.func (.func f1) #[] #[a1.eval u0, a1.eval u1, a1.eval u2])).tmps := EnvRel.put k4 (some t) (ev := .junk) trivial
    have inv : ∀ w' : World, (invoke (.fn (.func f1) #[a1.eval u0, a1.eval u1, a1.eval u2]) #[]).run P w' = .ok (.enter f1 #[a1.eval u0, a1.eval u1, a1.eval u2]) w' := fun w' => by
      simp only [invoke]
      exact callFunc_run hdf hdb hdm _ w'
    show Code.wp P rest _ ⟨(a1.put (some t) (.func (.func f1) #[] #[a1.eval u0, a1.eval u1, a1.eval u2])).tmps, { target := .fn (.func f1) #[a1.eval u0, a1.eval u1, a1.eval u2], args := #[] } :: a1.defers⟩ c1.w
    refine aevalD_sound hx hmix hn hcall hm rest (D := dsts rest) (fun t h => h) k3 (a := ⟨_, { target := .fn (.func f1) #[a1.eval u0, a1.eval u1, a1.eval u2], args := #[] } :: a1.defers⟩) hG1 hE2 k1 fun e c2 env2 a2 g1 g2 g3 g4 g5 => ?_
    have hds : a2.defers = [{ target := .fn (.func f1) #[a1.eval u0, a1.eval u1, a1.eval u2], args := #[] }] := by
      rw [g5.defers]
      show _ :: a1.defers = _
      rw [k5.defers]
    have ret : finD cx vars rs post env2 c2.heap → Leaves P fn a2.tmps (fun e w' => ∃ v, e = Ending.returned v ∧ ∃ r, post r ∧ Grows w w' ∧ ResRep w w' ok rs r v) a2.defers .returning c2.w := by
      intro hfin
      rw [hds]
      refine leaves_cons (by simp) (inv _) (CallsD.mono (rec_none hdf hdb hdn hdr hj) fun e u' w' he => ?_)
      obtain ⟨rfl, rfl, rfl⟩ := he
      obtain ⟨v, hv, u, hu⟩ := fin (k2.trans g2) g3 g4 hfin
      exact ⟨v, hv, u, hu⟩
    cases e with
    | normal => exact ret g1
    | ret => exact ret g1
    | panic ch =>
      simp only at g1
      split at g1
      · rename_i n hn'
        obtain rfl := gaveN_spec hn'
        show Leaves P fn a2.tmps _ a2.defers _ c2.w
        rw [hds]
        have E12 : Ext c1 c2 := g2
        refine leaves_cons (by simp) (inv _) (CallsD.mono (rec_some hx hmix hdf hdb hdn hdr hj hft g3 (GOk.mono hG1 g2) (EV.rel_mono g2 r0) (EV.rel_mono g2 r1) (EV.rel_mono g2 r2) g1) fun e u' w' he => ?_)
        obtain ⟨rfl, rfl, c3, rfl, q1, q2, q3⟩ := he
        obtain ⟨v, hv, u, hu⟩ := fin ((k2.trans g2).trans q2) q3 (EnvRel.mono g4 q2) q1
        exact ⟨v, hv, u, hu⟩
      · exact g1.elim
    | exit id => exact g1.elim
    | goto l => exact g1.elim
    | outgrown => exact g1.elim
theorem detD {f : FuncId} {nt : Nat} {vars : List ResultVar} {code : Code} (hf : FnAt P f nt vars code) {ks : List K} {rs : List RK} {pre : KS ks → Prop} {g : KS ks → RS rs}
    {F : KS ks → (RS rs → Prop) → Prop} (he : ∀ x post, fnEvalD cx hn call tk mf df y nt vars code ks rs x post = F x post) (h : ∀ x, pre x → KS.wf ks x → F x (fun r => r = g x)) : (Con.det ks rs pre g).holds P cx.glob f := by
  intro w ok hok x vs ha hg hp
  rcases fn_specD hx hmix hn hcall hm hdf hdb hdn hdr hdm hj hft hf hok ha hg ((he x _).mpr (h x hp ha.wf)) with ⟨v, w', h1, r, rfl, h2⟩ | ⟨h1, h2⟩
  · exact .inl ⟨v, w', h1, h2⟩
  · exact .inr ⟨h1, h2.mono fun e w' => by rintro ⟨v, e1, r, rfl, h3⟩; exact ⟨v, e1, h3⟩⟩
end
end Go.Lift

set_option linter.unusedVariables false
namespace Go.Lift
open Go.Proofs
def Ntab : List (Nat × TD) := [
  (2, ⟨.int .i64, 1, 8, [.int .i64 0], some (.int .i64)⟩),
  (3, ⟨.int .i64, 1, 8, [.int .i64 0], some (.int .i64)⟩),
  (4, ⟨.bool, 1, 1, [.bool false], some (.bool)⟩),
  (5, ⟨.int .u8, 1, 1, [.int .u8 0], some (.int .u8)⟩),
  (9, ⟨.str, 1, 16, [.string ⟨#[]⟩], none⟩),
  (32, ⟨.int .u32, 1, 4, [.int .u32 0], some (.int .u32)⟩),
  (33, ⟨.slice 32, 1, 24, [.slice none 0 0], some (.slice (.int .u32))⟩),
  (35, ⟨.struct [(0, 3), (1, 32), (2, 32), (3, 33)], 4, 40, [.int .i64 0, .int .u32 0, .int .u32 0, .slice none 0 0], some (.pair (.int .i64) (.pair (.int .u32) (.pair (.int .u32) (.slice (.int .u32)))))⟩),
  (37, ⟨.slice 5, 1, 24, [.slice none 0 0], some (.slice (.int .u8))⟩),
  (28, ⟨.int .i64, 1, 8, [.int .i64 0], some (.int .i64)⟩),
  (95, ⟨.int .u64, 1, 8, [.int .u64 0], some (.int .u64)⟩),
  (22, ⟨.slice 53, 1, 24, [.slice none 0 0], some (.slice (.flt .f64))⟩),
  (23, ⟨.slice 2, 1, 24, [.slice none 0 0], some (.slice (.int .i64))⟩),
  (25, ⟨.struct [(0, 22), (1, 23), (2, 23), (3, 22), (4, 2), (5, 3)], 6, 112, [.slice none 0 0, .slice none 0 0, .slice none 0 0, .slice none 0 0, .int .i64 0, .int .i64 0], some (.pair (.slice (.flt .f64)) (.pair (.slice (.int .i64)) (.pair (.slice (.int .i64)) (.pair (.slice (.flt .f64)) (.pair (.int .i64) (.int .i64))))))⟩),
  (27, ⟨.slice 35, 1, 24, [.slice none 0 0], some (.slice (.pair (.int .i64) (.pair (.int .u32) (.pair (.int .u32) (.slice (.int .u32))))))⟩),
  (53, ⟨.flt .f64, 1, 8, [.float .f64 0], some (.flt .f64)⟩),
  (88, ⟨.arr 4 3, 4, 32, [.int .i64 0, .int .i64 0, .int .i64 0, .int .i64 0], some (.arr 4 (.int .i64))⟩),
  (43, ⟨.int .u64, 1, 8, [.int .u64 0], some (.int .u64)⟩),
  (99, ⟨.flt .f32, 1, 4, [.float .f32 0], some (.flt .f32)⟩),
  (102, ⟨.struct [(0, 53), (1, 53), (2, 53)], 3, 24, [.float .f64 0, .float .f64 0, .float .f64 0], some (.pair (.flt .f64) (.pair (.flt .f64) (.flt .f64)))⟩),
  (103, ⟨.arr 4 102, 12, 96, [.float .f64 0, .float .f64 0, .float .f64 0, .float .f64 0, .float .f64 0, .float .f64 0, .float .f64 0, .float .f64 0, .float .f64 0, .float .f64 0, .float .f64 0, .float .f64 0], some (.arr 4 (.pair (.flt .f64) (.pair (.flt .f64) (.flt .f64))))⟩),
  (129, ⟨.arr 2 3, 2, 16, [.int .i64 0, .int .i64 0], some (.arr 2 (.int .i64))⟩),
  (139, ⟨.arr 4 129, 8, 64, [.int .i64 0, .int .i64 0, .int .i64 0, .int .i64 0, .int .i64 0, .int .i64 0, .int .i64 0, .int .i64 0], some (.arr 4 (.arr 2 (.int .i64)))⟩),
  (165, ⟨.arr 3 53, 3, 24, [.float .f64 0, .float .f64 0, .float .f64 0], some (.arr 3 (.flt .f64))⟩),
  (153, ⟨.arr 3 3, 3, 24, [.int .i64 0, .int .i64 0, .int .i64 0], some (.arr 3 (.int .i64))⟩),
  (175, ⟨.arr 3 153, 9, 72, [.int .i64 0, .int .i64 0, .int .i64 0, .int .i64 0, .int .i64 0, .int .i64 0, .int .i64 0, .int .i64 0, .int .i64 0], some (.arr 3 (.arr 3 (.int .i64)))⟩),
  (176, ⟨.arr 6 175, 54, 432, [.int .i64 0, .int .i64 0, .int .i64 0, .int .i64 0, .int .i64 0, .int .i64 0, .int .i64 0, .int .i64 0, .int .i64 0, .int .i64 0, .int .i64 0, .int .i64 0, .int .i64 0, .int .i64 0, .int .i64 0, .int .i64 0, .int .i64 0, .int .i64 0, .int .i64 0, .int .i64 0, .int .i64 0, .int .i64 0, .int .i64 0, .int .i64 0, .int .i64 0, .int .i64 0, .int .i64 0, .int .i64 0, .int .i64 0, .int .i64 0, .int .i64 0, .int .i64 0, .int .i64 0, .int .i64 0, .int .i64 0, .int .i64 0, .int .i64 0, .int .i64 0, .int .i64 0, .int .i64 0, .int .i64 0, .int .i64 0, .int .i64 0, .int .i64 0, .int .i64 0, .int .i64 0, .int .i64 0, .int .i64 0, .int .i64 0, .int .i64 0, .int .i64 0, .int .i64 0, .int .i64 0, .int .i64 0], some (.arr 6 (.arr 3 (.arr 3 (.int .i64))))⟩),
  (110, ⟨.slice 3, 1, 24, [.slice none 0 0], some (.slice (.int .i64))⟩),
  (154, ⟨.arr 3 3, 3, 24, [.int .i64 0, .int .i64 0, .int .i64 0], some (.arr 3 (.int .i64))⟩),
  (156, ⟨.arr 3 154, 9, 72, [.int .i64 0, .int .i64 0, .int .i64 0, .int .i64 0, .int .i64 0, .int .i64 0, .int .i64 0, .int .i64 0, .int .i64 0], some (.arr 3 (.arr 3 (.int .i64)))⟩),
  (157, ⟨.arr 6 156, 54, 432, [.int .i64 0, .int .i64 0, .int .i64 0, .int .i64 0, .int .i64 0, .int .i64 0, .int .i64 0, .int .i64 0, .int .i64 0, .int .i64 0, .int .i64 0, .int .i64 0, .int .i64 0, .int .i64 0, .int .i64 0, .int .i64 0, .int .i64 0, .int .i64 0, .int .i64 0, .int .i64 0, .int .i64 0, .int .i64 0, .int .i64 0, .int .i64 0, .int .i64 0, .int .i64 0, .int .i64 0, .int .i64 0, .int .i64 0, .int .i64 0, .int .i64 0, .int .i64 0, .int .i64 0, .int .i64 0, .int .i64 0, .int .i64 0, .int .i64 0, .int .i64 0, .int .i64 0, .int .i64 0, .int .i64 0, .int .i64 0, .int .i64 0, .int .i64 0, .int .i64 0, .int .i64 0, .int .i64 0, .int .i64 0, .int .i64 0, .int .i64 0, .int .i64 0, .int .i64 0, .int .i64 0, .int .i64 0], some (.arr 6 (.arr 3 (.arr 3 (.int .i64))))⟩),
  (122, ⟨.struct [(0, 3), (1, 119), (2, 118), (3, 120), (4, 23), (5, 22), (6, 22)], 7, 136, [.int .i64 0, .slice none 0 0, .map none, .slice none 0 0, .slice none 0 0, .slice none 0 0, .slice none 0 0], some (.pair (.int .i64) (.pair (.slice (.pair (.int .i64) (.pair (.int .i64) (.pair (.int .i64) (.int .i64))))) (.pair (.map (.pair (.int .i64) (.int .i64)) (.int .i64)) (.pair (.slice (.arr 2 (.int .i64))) (.pair (.slice (.int .i64)) (.pair (.slice (.flt .f64)) (.slice (.flt .f64))))))))⟩),
  (64, ⟨.ptr 122, 1, 8, [.pointer none], some (.ptr (.pair (.int .i64) (.pair (.slice (.pair (.int .i64) (.pair (.int .i64) (.pair (.int .i64) (.int .i64))))) (.pair (.map (.pair (.int .i64) (.int .i64)) (.int .i64)) (.pair (.slice (.arr 2 (.int .i64))) (.pair (.slice (.int .i64)) (.pair (.slice (.flt .f64)) (.slice (.flt .f64)))))))))⟩),
  (126, ⟨.struct [(0, 3), (1, 3), (2, 3), (3, 3)], 4, 32, [.int .i64 0, .int .i64 0, .int .i64 0, .int .i64 0], some (.pair (.int .i64) (.pair (.int .i64) (.pair (.int .i64) (.int .i64))))⟩),
  (119, ⟨.slice 126, 1, 24, [.slice none 0 0], some (.slice (.pair (.int .i64) (.pair (.int .i64) (.pair (.int .i64) (.int .i64)))))⟩),
  (120, ⟨.slice 129, 1, 24, [.slice none 0 0], some (.slice (.arr 2 (.int .i64)))⟩),
  (118, ⟨.map 150 3, 1, 8, [.map none], some (.map (.pair (.int .i64) (.int .i64)) (.int .i64))⟩),
  (150, ⟨.struct [(0, 3), (1, 3)], 2, 16, [.int .i64 0, .int .i64 0], some (.pair (.int .i64) (.int .i64))⟩),
  (123, ⟨.plain, 1, 8, [.nilFunc], none⟩),
  (124, ⟨.slice 123, 1, 24, [.slice none 0 0], none⟩),
  (71, ⟨.slice 23, 1, 24, [.slice none 0 0], some (.slice (.slice (.int .i64)))⟩),
  (80, ⟨.struct [(0, 37)], 1, 24, [.slice none 0 0], none⟩),
  (78, ⟨.ptr 80, 1, 8, [.pointer none], none⟩),
  (75, ⟨.struct [(0, 28)], 1, 8, [.int .i64 0], none⟩)]
theorem Ntab_ok : tabB Tryz.prog Ntab = true := by kernel_rfl
theorem Nmixed : Tryz.prog.follows .mixedOrders = true := by kernel_rfl
def NG : Globs := fun g => match g with | 1 => some ⟨.arr 6 (.arr 3 (.arr 3 (.int .i64))), framesL⟩ | 2 => some ⟨.arr 6 (.arr 3 (.arr 3 (.int .i64))), framesL⟩ | _ => none
def Nq_math_Float64bits : Con := .det [.flt .f64] [.snap (.int .u64)] (fun _ => True) (fun x => bitsR x.1)
def Nq_math_Float64frombits : Con := .det [.int .u64] [.snap (.flt .f64)] (fun _ => True) (fun x => fromR x.1)
def Nq_math_sqrt : Con := .rel [.flt .f64] [.snap (.flt .f64)] (fun _ => True) (fun x r => sqrtP x.1 r) (fun x h => relF_ne (sqrtQ_q _) (sqrtQ_w _))
def Nq_raw_Same : Con := .det [.flt .f64, .flt .f64] [.snap .bool] (fun _ => True) (fun x => sameR x.1 x.2.1)
def Nq_bits_quiet : Con := .det [] [.snap (.flt .f64)] (fun _ => True) (fun x => qnR)
def Nq_math_Abs : Con := .det [.flt .f64] [.snap (.flt .f64)] (fun x => W64 x.1) (fun x => absR x.1)
def Nq_math_IsNaN : Con := .det [.flt .f64] [.snap .bool] (fun _ => True) (fun x => nanR x.1)
def Nq_bits_Canon : Con := .det [.flt .f64] [.snap (.flt .f64)] (fun _ => True) (fun x => canonR x.1)
def Nq_sum_quiet : Con := .det [.flt .f64] [.snap (.flt .f64)] (fun _ => True) (fun x => quietR x.1)
def Nq_sum_magnitude : Con := .det [.flt .f64] [.snap (.int .u64)] (fun x => W64 x.1) (fun x => mag2R x.1)
def Nq_bits_place : Con := .det [.flt .f64] [.snap (.int .u64)] (fun x => W64 x.1) (fun x => placeR x.1)
def Nq_cmp_isNaN_uint64 : Con := .det [.int .u64] [.snap .bool] (fun _ => True) (fun x => noR x.1)
def Nq_cmp_Compare_uint64 : Con := .det [.int .u64, .int .u64] [.snap (.int .i64)] (fun _ => True) (fun x => cmpR x.1 x.2.1)
def Nq_bits_Order : Con := .det [.flt .f64, .flt .f64] [.snap (.int .i64)] (fun x => W2 x.1 x.2.1) (fun x => ordR x.1 x.2.1)
def Nq_cmp_Or_int : Con := .det [.slice (.int .i64)] [.snap (.int .i64)] (fun _ => True) (fun x => orR x.1)
def Nq_sum_Three_c1 : Con := .det [.flt .f64, .flt .f64] [.snap (.int .i64)] (fun x => W2 x.1 x.2.1) (fun x => cmpMR x.1 x.2.1)
def Nq_math_IsInf : Con := .det [.flt .f64, .int .i64] [.snap .bool] (fun x => WI x.1 x.2.1) (fun x => infSR x.1 x.2.1)
def Nq_sum_row : Con := .det [.slice (.flt .f64)] [.snap (.flt .f64)] (fun x => WL x.1) (fun x => rowR x.1)
def Nq_mbits_Len64 : Con := .det [.int .u64] [.snap (.int .i64)] (fun x => IsThree x.1) (fun x => twoR x.1)
def Nq_mbits_Len : Con := .det [.int .u64] [.snap (.int .i64)] (fun x => IsThree x.1) (fun x => twoR x.1)
def Nq_sum_Three : Con := .det [.flt .f64, .flt .f64, .flt .f64] [.snap (.flt .f64)] (fun x => W3 x.1 x.2.1 x.2.2.1) (fun x => threeR x.1 x.2.1 x.2.2.1)
def Nq_vec_canon : Con := .det [.flt .f64, .flt .f64, .flt .f64] [.snap kVec] (fun _ => True) (fun x => canonVR x.1 x.2.1 x.2.2.1)
def Nq_vec_Minus : Con := .det [kVec, kVec] [.snap kVec] (fun x => WV2 x.1 x.2.1) (fun x => minusR x.1 x.2.1)
def Nq_vec_Cross : Con := .det [kVec, kVec] [.snap kVec] (fun _ => True) (fun x => crossR x.1 x.2.1)
def Nq_math_Sqrt : Con := .rel [.flt .f64] [.snap (.flt .f64)] (fun _ => True) (fun x r => sqrtP x.1 r) (fun x h => relF_ne (sqrtQ_q _) (sqrtQ_w _))
def Nq_vec_Length : Con := .det [kVec] [.snap (.flt .f64)] (fun x => WV x.1) (fun x => lengthR x.1)
def Nq_vec_Gap : Con := .det [kVec, kVec] [.snap (.flt .f64)] (fun x => WV2 x.1 x.2.1) (fun x => gapR x.1 x.2.1)
def Nq_vec_Unit : Con := .det [kVec] [.snap kVec] (fun x => WV x.1) (fun x => unitR x.1)
def Nq_cube_good : Con := .det [.int .i64] [.snap .bool] (fun _ => True) (fun x => goodCR x.1)
def Nq_cube_Cells : Con := .det [.int .i64] [.snap (.int .i64)] (fun x => I64 x.1) (fun x => cellsR x.1)
def Nq_cube_Place : Con := .det [.int .i64, .int .i64] [.snap (.int .i64), .snap (.int .i64), .snap (.int .i64), .snap .bool] (fun x => II x.1 x.2.1) (fun x => placeR4 x.1 x.2.1)
def Nq_math_archFloor : Con := .det [.flt .f64] [.snap (.flt .f64)] (fun x => WNum x.1) (fun x => floorR x.1)
def Nq_math_Floor : Con := .det [.flt .f64] [.snap (.flt .f64)] (fun x => WNum x.1) (fun x => floorR x.1)
def Nq_conv_near : Con := .det [.flt .f64] [.snap (.int .u64)] (fun x => WNear x.1) (fun x => nearR x.1)
def Nq_conv_Round : Con := .det [.flt .f64] [.snap (.int .i64), .snap .bool] (fun x => W64 x.1) (fun x => roundR x.1)
def Nq_geom_ratio : Con := .det [.int .i64, .int .i64] [.snap (.flt .f64)] (fun x => WRatio x.1 x.2.1) (fun x => ratioR x.1 x.2.1)
def Nq_geom_point : Con := .det [.int .i64, .flt .f64, .flt .f64] [.snap kVec] (fun x => WPoint x.1 x.2.1 x.2.2.1) (fun x => pointR x.1 x.2.1 x.2.2.1)
def Nq_geom_Corner : Con := .det [.int .i64, .int .i64, .int .i64, .int .i64] [.snap kVec, .snap .bool] (fun x => IIII x.1 x.2.1 x.2.2.1 x.2.2.2.1) (fun x => cornerR x.1 x.2.1 x.2.2.1 x.2.2.2.1)
def Nq_geom_corners : Con := .det [.int .i64, .int .i64] [.snap (.arr 4 kVec), .snap .bool] (fun x => II x.1 x.2.1) (fun x => cornersR x.1 x.2.1)
def Nq_geom_Area : Con := .det [.int .i64, .int .i64] [.snap (.int .i64)] (fun x => II x.1 x.2.1) (fun x => areaR x.1 x.2.1)
def Nq_state_between : Con := .det [.flt .f64, .flt .f64, .flt .f64] [.snap .bool] (fun x => W3 x.1 x.2.1 x.2.2.1) (fun x => betweenR x.1 x.2.1 x.2.2.1)
def Nq_state_floats : Con := .det [.slice (.flt .f64), .flt .f64] [.snap (.int .i64)] (fun x => WLF x.1 x.2.1) (fun x => floatsR x.1 x.2.1)
def Nq_state_quanta : Con := .det [.slice (.int .i64), .int .i64] [.snap (.int .i64)] (fun x => WQuanta x.1 x.2.1) (fun x => quantaR x.1 x.2.1)
def Nq_state_Check : Con := .det [.int .i64, kSea] [.snap (.int .i64), .snap (.int .i64)] (fun x => WCheck x.1 x.2.1) (fun x => checkR x.1 x.2.1)
def Nq_cube_way_times : Con := Con.nam [kWay, .int .i64] [.snap kWay] (fun x => WTimes x.1 x.2.1) (fun x => timesR x.1 x.2.1)
def Nq_cube_way_plus : Con := Con.nam [kWay, kWay] [.snap kWay] (fun x => WPlus x.1 x.2.1) (fun x => plusR x.1 x.2.1)
def Nq_cube_way_dot : Con := Con.nam [kWay, kWay] [.snap (.int .i64)] (fun x => WDot x.1 x.2.1) (fun x => dotR x.1 x.2.1)
def Nq_cube_frame_out : Con := Con.nam [kFrame, .int .i64] [.snap kWay] (fun x => WOut x.1 x.2.1) (fun x => outR x.1 x.2.1)
def Nq_cube_faceAt : Con := Con.nam [kWay] [.snap (.int .i64)] (fun _ => True) (fun x => faceAtR x.1)
def Nq_cube_Cell : Con := Con.nam [.int .i64, .int .i64, .int .i64, .int .i64] [.snap (.int .i64)] (fun x => IIII x.1 x.2.1 x.2.2.1 x.2.2.2.1) (fun x => cellR x.1 x.2.1 x.2.2.1 x.2.2.2.1)
def Nq_cube_middle : Con := Con.nam [.int .i64, .int .i64, .int .i64, .int .i64] [.snap kWay] (fun x => WMiddle x.1 x.2.1 x.2.2.1 x.2.2.2.1) (fun x => middleR' x.1 x.2.1 x.2.2.1 x.2.2.2.1)
def Nq_cube_index : Con := Con.nam [.int .i64, .int .i64] [.snap (.int .i64)] (fun x => WIndex x.1 x.2.1) (fun x => indexR x.1 x.2.1)
def Nq_cube_Beside : Con := Con.nam [.int .i64, .int .i64, .int .i64] [.snap (.int .i64), .snap (.int .i64)] (fun x => III x.1 x.2.1 x.2.2.1) (fun x => besideR x.1 x.2.1 x.2.2.1)
def Nq_geom_Middle : Con := Con.nam [.int .i64, .int .i64] [.snap kVec, .snap .bool] (fun x => II x.1 x.2.1) (fun x => middleR x.1 x.2.1)
def Nq_geom_Length : Con := Con.nam [.int .i64, .int .i64, .int .i64] [.snap (.flt .f64)] (fun x => III x.1 x.2.1 x.2.2.1) (fun x => lengthGR x.1 x.2.1 x.2.2.1)
def Nq_geom_Gap : Con := Con.nam [.int .i64, .int .i64, .int .i64] [.snap (.flt .f64)] (fun x => III x.1 x.2.1 x.2.2.1) (fun x => gapGR x.1 x.2.1 x.2.2.1)
def Nq_grid_New : Con := .det [.int .i64] [.snap (.ptr kGrid), .snap (.int .i64)] (fun x => I64 x.1) (fun x => newR x.1)
def Nq_grid_Grid_Cells : Con := .det [.ptr kGrid] [.snap (.int .i64)] (fun _ => True) (fun x => nCellsR x.1)
def Nq_grid_Grid_Edges : Con := .det [.ptr kGrid] [.snap (.int .i64)] (fun _ => True) (fun x => nEdgesR x.1)
def Nq_grid_Grid_Area : Con := .det [.ptr kGrid, .int .i64] [.snap (.int .i64)] (fun _ => True) (fun x => nAreaR x.1 x.2.1)
def Nq_save_Sum : Con := Con.nam [.slice (.int .u8)] [.snap (.int .u64)] (fun x => BLs x.1) (fun x => sumR x.1)
def Nq_save_size : Con := Con.nam [.int .i64] [.snap (.int .i64)] (fun x => WSide x.1) (fun x => sizeR x.1)
def Nq_raw_All : Con := Con.nam [.slice (.flt .f64), .slice (.flt .f64)] [.snap .bool] (fun _ => True) (fun x => allR x.1 x.2.1)
def Nq_law25_ints : Con := Con.nam [.slice (.int .i64), .slice (.int .i64)] [.snap .bool] (fun _ => True) (fun x => intsR x.1 x.2.1)
def Nq_law25_seas : Con := Con.nam [kSea, kSea] [.snap .bool] (fun _ => True) (fun x => seasR x.1 x.2.1)
def Nq_save_Encode : Con := Con.nam [.int .i64, kSea] [.snap (.slice (.int .u8)), .snap (.int .i64)] (fun x => WCheck x.1 x.2.1) (fun x => enR x.1 x.2.1)
def Nq_save_Decode : Con := Con.nam [.slice (.int .u8)] [.snap (.int .i64), .snap kSea, .snap (.int .i64)] (fun x => BLs x.1) (fun x => deR x.1)
def Nq_law25_lake : Con := Con.nam [.ptr kGrid] [.snap kSea] (fun _ => True) (fun x => lakeR x.1)
def Nq_law25_lives : Con := Con.nam [] [.snap .bool] (fun _ => True) (fun x => trueR0)
def Nq_law25_SaveSum : Con := .det [.slice (.int .u8), .slice (.int .u8), .int .i64, .int .u8] [.snap .bool] (fun x => WSums x.1 x.2.1 x.2.2.1 x.2.2.2.1) (fun x => trueR4 x.1 x.2.1 x.2.2.1 x.2.2.2.1)
def Nhn_cmp_Or_int : Hn := { loops := fun k => match k with | 3 => some { ls := [(.slot 8, .data (.int .i64))], os := [] } | _ => none, joins := fun _ => none, named := true }
def Nhn_sum_row : Hn := { loops := fun k => match k with | 5 => some { ls := [(.slot 3, .data (.flt .f64)), (.slot 15, .data (.int .i64))], os := [] } | _ => none, joins := fun _ => none, named := true }
def Nhn_sum_Three : Hn := { loops := fun _ => none, joins := fun _ => none, inl := inlL [136] }
def Nhn_geom_point : Hn := { loops := fun _ => none, joins := hintH [(13, { ls := [], os := [(1, 165, .flt .f64)] })], unroll := fun _ => some 4 }
def Nhn_geom_corners : Hn := { loops := fun _ => none, joins := fun _ => none, unroll := fun _ => some 5 }
def Nhn_state_floats : Hn := { loops := fun _ => none, joins := fun _ => none, named := true, inl := inlL [98] }
def Nhn_state_quanta : Hn := { loops := fun _ => none, joins := fun _ => none, named := true, inl := inlL [101] }
def Nhn_state_Check : Hn := { loops := fun _ => none, joins := fun _ => none, unroll := fun _ => some 5 }
def Nhn_cube_faceAt : Hn := { loops := hintH [(2, { ls := [(.slot 4, .data (.int .i64))], os := [] })], joins := fun _ => none, named := true }
def Nhn_cube_Cell : Hn := nHn
def Nhn_cube_Beside : Hn := { loops := hintH [(13, { ls := [(.slot 98, .data (.int .i64))], os := [] })], joins := fun _ => none, named := true }
def Nhn_geom_Length : Hn := nHn
def Nhn_geom_Gap : Hn := nHn
def Nhn_grid_New : Hn := { loops := hintH [(9, { ls := [(.slot 36, .data (.int .i64)), (.cell 1 1, .row 126 kEdge), (.cell 1 4, .row 2 (.int .i64))], os := [(0, 118, .ent (.pair (.int .i64) (.int .i64)) (.int .i64))] }), (15, { ls := [(.slot 49, .data (.int .i64)), (.cell 1 3, .row 129 (.arr 2 (.int .i64))), (.cell 1 5, .row 53 (.flt .f64)), (.cell 1 6, .row 53 (.flt .f64))], os := [] })], joins := fun _ => none, inl := inlL [86, 87], unroll := fun k => if k = 6 then some 3 else none }
def Nhn_grid_Grid_Area : Hn := nHn
def Nhn_save_Sum : Hn := { loops := hintH [(3, { ls := [(.slot 3, .data (.int .u64)), (.slot 8, .data (.int .i64))], os := [] })], joins := fun _ => none, named := true }
def Nhn_raw_All : Hn := { loops := hintH [(4, { ls := [(.slot 5, .data (.int .i64))], os := [] })], joins := fun _ => none, named := true }
def Nhn_law25_ints : Hn := { loops := hintH [(4, { ls := [(.slot 5, .data (.int .i64))], os := [] })], joins := fun _ => none, named := true }
def Nhn_save_Encode : Hn := { loops := hintH [(9, { ls := [(.slot 8, .row 5 (.int .u8)), (.slot 48, .data (.int .i64))], os := [] }), (14, { ls := [(.slot 8, .row 5 (.int .u8)), (.slot 63, .data (.int .i64))], os := [] }), (17, { ls := [(.slot 8, .row 5 (.int .u8)), (.slot 69, .data (.int .i64))], os := [] }), (23, { ls := [(.slot 8, .row 5 (.int .u8)), (.slot 82, .data (.int .i64))], os := [] })], joins := fun _ => none, named := true, inl := inlL [44] }
def Ntk_save_Decode : Tks := fun k => match k with | 8 => some [0, 2, 3, 4, 5, 6] | 19 => some [] | _ => none
def Nhn_save_Decode : Hn := { loops := fun _ => none, joins := fun _ => none, named := true, binds := fun r => match r with | 10 => [7] | _ => [], inl := inlL [51, 52, 53] }
def Nhn_law25_lake : Hn := { loops := hintH [(6, { ls := [(.slot 5, .data (.int .i64))], os := [(2, 2, .int .i64)] })], joins := fun _ => none, named := true }
def Nhn_law25_lives : Hn := { loops := fun _ => none, joins := fun _ => none, named := true }
def Nhn_law25_SaveSum : Hn := { loops := hintH [(7, { ls := [(.slot 9, .data (.int .u64)), (.slot 10, .data (.int .i64))], os := [] })], joins := fun _ => none, named := true }
noncomputable def Nfns_sort3 (f : Nat) : Option InFn := match f with
  | 136 => some ⟨Tryz.f136.ntmps, Tryz.f136.results.toList, Tryz.f136.body.getD .skip, { loops := fun _ => none, joins := fun _ => none, inl := inlL [136, 154, 166], unroll := fun k => some 4 }⟩
  | 154 => some ⟨Tryz.f154.ntmps, Tryz.f154.results.toList, Tryz.f154.body.getD .skip, { loops := fun _ => none, joins := fun _ => none, inl := inlL [136, 154, 166], unroll := fun k => some 4 }⟩
  | 166 => some ⟨Tryz.f166.ntmps, Tryz.f166.results.toList, Tryz.f166.body.getD .skip, { loops := fun _ => none, joins := fun _ => none, inl := inlL [136, 154, 166], unroll := fun k => some 4 }⟩
  | _ => none
theorem Nfns_sort3_ok : FnsOk Tryz.prog Nfns_sort3 := by
  intro f fn h
  unfold Nfns_sort3 at h
  split at h
  · cases h; exact ⟨Tryz.f136, Tryz.func136, rfl, rfl, by simp, by decide⟩
  · cases h; exact ⟨Tryz.f154, Tryz.func154, rfl, rfl, by simp, by decide⟩
  · cases h; exact ⟨Tryz.f166, Tryz.func166, rfl, rfl, by simp, by decide⟩
  · cases h
noncomputable def Nfns_idxF (f : Nat) : Option InFn := match f with
  | 98 => some ⟨Tryz.f98.ntmps, Tryz.f98.results.toList, Tryz.f98.body.getD .skip, { loops := hintH [(2, { ls := [(.slot 8, .data (.int .i64))], os := [] })], joins := fun _ => none, named := true, inl := inlL [99] }⟩
  | 99 => some ⟨Tryz.f99.ntmps, Tryz.f99.results.toList, Tryz.f99.body.getD .skip, nHn⟩
  | _ => none
theorem Nfns_idxF_ok : FnsOk Tryz.prog Nfns_idxF := by
  intro f fn h
  unfold Nfns_idxF at h
  split at h
  · cases h; exact ⟨Tryz.f98, Tryz.func98, rfl, rfl, by simp, by decide⟩
  · cases h; exact ⟨Tryz.f99, Tryz.func99, rfl, rfl, by simp, by decide⟩
  · cases h
noncomputable def Nfns_idxI (f : Nat) : Option InFn := match f with
  | 101 => some ⟨Tryz.f101.ntmps, Tryz.f101.results.toList, Tryz.f101.body.getD .skip, { loops := hintH [(2, { ls := [(.slot 8, .data (.int .i64)), (.cell 0 0, .data (.int .i64))], os := [] })], joins := fun _ => none, named := true, inl := inlL [102] }⟩
  | 102 => some ⟨Tryz.f102.ntmps, Tryz.f102.results.toList, Tryz.f102.body.getD .skip, nHn⟩
  | _ => none
theorem Nfns_idxI_ok : FnsOk Tryz.prog Nfns_idxI := by
  intro f fn h
  unfold Nfns_idxI at h
  split at h
  · cases h; exact ⟨Tryz.f101, Tryz.func101, rfl, rfl, by simp, by decide⟩
  · cases h; exact ⟨Tryz.f102, Tryz.func102, rfl, rfl, by simp, by decide⟩
  · cases h
noncomputable def Nfns_grid (f : Nat) : Option InFn := match f with
  | 86 => some ⟨Tryz.f86.ntmps, Tryz.f86.results.toList, Tryz.f86.body.getD .skip, { loops := hintH [(1, { ls := [(.slot 7, .data (.int .i64)), (.cell 1 1, .row 126 kEdge)], os := [(0, 118, .ent (.pair (.int .i64) (.int .i64)) (.int .i64))] })], joins := fun _ => none }⟩
  | 87 => some ⟨Tryz.f87.ntmps, Tryz.f87.results.toList, Tryz.f87.body.getD .skip, nHn⟩
  | _ => none
theorem Nfns_grid_ok : FnsOk Tryz.prog Nfns_grid := by
  intro f fn h
  unfold Nfns_grid at h
  split at h
  · cases h; exact ⟨Tryz.f86, Tryz.func86, rfl, rfl, by simp, by decide⟩
  · cases h; exact ⟨Tryz.f87, Tryz.func87, rfl, rfl, by simp, by decide⟩
  · cases h
noncomputable def Nfns_sput (f : Nat) : Option InFn := match f with
  | 44 => some ⟨Tryz.f44.ntmps, Tryz.f44.results.toList, Tryz.f44.body.getD .skip, { loops := hintH [(2, { ls := [(.slot 0, .row 5 (.int .u8)), (.slot 1, .data (.int .u64)), (.slot 5, .data (.int .i64))], os := [] })], joins := fun _ => none, named := true }⟩
  | 46 => some ⟨Tryz.f46.ntmps, Tryz.f46.results.toList, Tryz.f46.body.getD .skip, { loops := hintH [(2, { ls := [(.slot 0, .row 5 (.int .u8)), (.slot 1, .data (.int .u64)), (.slot 5, .data (.int .i64))], os := [] })], joins := fun _ => none, named := true }⟩
  | _ => none
theorem Nfns_sput_ok : FnsOk Tryz.prog Nfns_sput := by
  intro f fn h
  unfold Nfns_sput at h
  split at h
  · cases h; exact ⟨Tryz.f44, Tryz.func44, rfl, rfl, by simp, by decide⟩
  · cases h; exact ⟨Tryz.f46, Tryz.func46, rfl, rfl, by simp, by decide⟩
  · cases h
noncomputable def Nfns_reader (f : Nat) : Option InFn := match f with
  | 51 => some ⟨Tryz.f51.ntmps, Tryz.f51.results.toList, Tryz.f51.body.getD .skip, { loops := hintH [(5, { ls := [(.slot 3, .data (.int .u64)), (.slot 4, .data (.int .i64))], os := [] })], joins := fun _ => none, named := true }⟩
  | 52 => some ⟨Tryz.f52.ntmps, Tryz.f52.results.toList, Tryz.f52.body.getD .skip, { loops := hintH [(3, { ls := [(.slot 5, .row 53 (.flt .f64)), (.slot 11, .data (.int .i64)), (.cell 4 0, .data (.slice (.int .u8)))], os := [] })], joins := fun _ => none, named := true, inl := inlL [51] }⟩
  | 53 => some ⟨Tryz.f53.ntmps, Tryz.f53.results.toList, Tryz.f53.body.getD .skip, { loops := hintH [(3, { ls := [(.slot 5, .row 2 (.int .i64)), (.slot 11, .data (.int .i64)), (.cell 4 0, .data (.slice (.int .u8)))], os := [] })], joins := fun _ => none, named := true, inl := inlL [51] }⟩
  | _ => none
theorem Nfns_reader_ok : FnsOk Tryz.prog Nfns_reader := by
  intro f fn h
  unfold Nfns_reader at h
  split at h
  · cases h; exact ⟨Tryz.f51, Tryz.func51, rfl, rfl, by simp, by decide⟩
  · cases h; exact ⟨Tryz.f52, Tryz.func52, rfl, rfl, by simp, by decide⟩
  · cases h; exact ⟨Tryz.f53, Tryz.func53, rfl, rfl, by simp, by decide⟩
  · cases h
end Go.Lift

namespace Go.Lift
end Go.Lift

set_option linter.unusedVariables false
set_option linter.unusedSimpArgs false
namespace Go.Lift
open Go.ChangeShapes Go.WideShapes Go.RowKit
mutual
def K.ofD : (k : K) → DataW Unit → Option k.T
  | .int ik, .lit (.int jk n) => if jk = ik then some n else none
  | .arr n e, .agg ds => match ofDs e ds with
    | some xs => if xs.length = n then some xs else none
    | none => none
  | _, _ => none
def ofDs : (e : K) → List (DataW Unit) → Option (List e.T)
  | _, [] => some []
  | e, d :: ds => match K.ofD e d with
    | some x => match ofDs e ds with
      | some xs => some (x :: xs)
      | none => none
    | none => none
end
theorem rows_by {α : Type} {R : α → List Value → Prop} {s : Nat} : ∀ {ys : List α} {cs : List Value}, cs.length = ys.length * s → (∀ (i : Nat) (y : α), ys[i]? = some y → R y ((cs.drop (i * s)).take s)) → Rows R ys cs
  | [], cs, h, _ => List.eq_nil_of_length_eq_zero (by simpa using h)
  | y :: ys, cs, h, hr => by
    rw [List.length_cons, Nat.add_mul, Nat.one_mul] at h
    refine ⟨cs.take s, cs.drop s, (List.take_append_drop s cs).symm, by simpa using hr 0 y rfl, rows_by (s := s) (by rw [List.length_drop]; omega) fun i z hz => ?_⟩
    have := hr (i + 1) z (by simpa using hz)
    rwa [Nat.add_mul, Nat.one_mul, Nat.add_comm, ← List.drop_drop] at this
theorem ofDs_get : ∀ {e : K} {ds : List (DataW Unit)} {xs : List e.T}, ofDs e ds = some xs → xs.length = ds.length ∧ ∀ (i : Nat) (x : e.T), xs[i]? = some x → ∃ d, ds[i]? = some d ∧ K.ofD e d = some x
  | e, [], xs, h => by simp only [ofDs, Option.some.injEq] at h; subst h; exact ⟨rfl, fun i x hx => by simp at hx⟩
  | e, d :: ds, xs, h => by
    simp only [ofDs] at h
    split at h
    · rename_i x hx
      split at h
      · rename_i ys hys
        cases h
        obtain ⟨h1, h2⟩ := ofDs_get hys
        refine ⟨by simp [h1], fun i z hz => ?_⟩
        cases i with
        | zero => simp at hz; subst hz; exact ⟨d, rfl, hx⟩
        | succ i => simpa using h2 i z (by simpa using hz)
      · cases h
    · cases h
theorem trod_ofD {P : Program} {w : World} {ok : Nat → Prop} : ∀ {k : K} {t : TypeId}, KT P t k → ∀ {fuel : Nat} {cs : List Value} {x : DataW Unit × List MemPlace} {y : k.T}, DataW.trod (fun _ => ()) P w 0 (fun _ => true) false fuel t cs = some x → K.ofD k x.1 = some y → k.rep w ok y cs := by
  intro k
  induction k with
  | int ik =>
    intro t hk fuel cs x y h hy
    cases hk with
    | int ht =>
      obtain ⟨n, h1, h2, _⟩ := DataW.trod_int ht h
      rw [h2] at hy
      simp only [K.ofD, if_true] at hy
      obtain rfl := Option.some.inj hy
      exact h1
  | arr n e ih =>
    intro t hk fuel cs x y h hy
    cases hk with
    | arr ht hc hs he =>
      obtain ⟨xs, m, rfl, rfl, h1, h2, h3⟩ := DataW.trod_array ht h
      simp only [K.ofD] at hy
      split at hy
      · rename_i ys hys
        split at hy
        · rename_i hl
          cases hy
          obtain ⟨g1, g2⟩ := ofDs_get hys
          refine ⟨hl, rows_by (s := e.sz) (by rw [h1, hs, hl]) fun i z hz => ?_⟩
          obtain ⟨d, hd, hz2⟩ := g2 i z hz
          have hi : i < n := by rw [← hl]; exact (List.getElem?_eq_some_iff.1 hz).1
          have h4 := h3 i hi
          rw [hc] at h4
          rw [List.getElem?_map] at hd
          cases hx : xs[i]? with
          | none => rw [hx] at hd; cases hd
          | some q =>
            rw [hx] at hd h4
            cases hd
            exact ih he h4 hz2
        · cases hy
      · cases hy
  | _ => intro t hk fuel cs x y h hy; simp [K.ofD] at hy
theorem laid_mem {P : Program} {w : World} {n : String} {d : DataW Unit} : ∀ {l : List (String × DataW Unit)} {ps : List MemPlace}, DataW.LaidVars P w l ps → (n, d) ∈ l →
    ∃ g t cs fuel p, P.globalNamed n = some g ∧ (P.globals[g]?).map (·.type) = some t ∧ w.var? P n = some cs ∧ DataW.trod (fun _ => ()) P w 0 (fun _ => true) false fuel t cs.toList = some (d, p)
  | [], ps, _, h => by cases h
  | (m, e) :: l, ps, ⟨g, t, cs, fuel, p, q, h1, h2, h3, h4, h5, _⟩, h => by
    rcases List.mem_cons.1 h with h | h
    · cases h; exact ⟨g, t, cs, fuel, p, h1, h2, h3, h4⟩
    · exact laid_mem h5 h
theorem laid_rep {P : Program} {w : World} {l : List (String × DataW Unit)} (h : laidMet P l w) {n : String} {d : DataW Unit} (hm : (n, d) ∈ l) {g : Nat} {t : TypeId} (hg : P.globalNamed n = some g) (ht : (P.globals[g]?).map (·.type) = some t) {k : K} (hk : KT P t k) {x : k.T} (hx : K.ofD k d = some x) :
    (K.ptr k).rep w (fun b => b < w.heap.size) (some x) [.pointer (some ⟨g, 0, none⟩)] := by
  obtain ⟨ps, h1, _, _⟩ := h
  obtain ⟨g', t', cs, fuel, p, h2, h3, h4, h5⟩ := laid_mem h1 hm
  rw [hg] at h2; cases h2
  rw [ht] at h3; cases h3
  have hlt : g < w.heap.size := by
    simp only [World.var?, hg, Option.bind_some] at h4
    split at h4
    · rename_i hh; exact lt_of_some hh
    · cases h4
  refine .inr ⟨x, g, 0, cs.toList, rfl, rfl, hlt, trod_ofD hk h5 hx, fun j v hj => ?_⟩
  rw [Nat.zero_add, World.var?_cell hg h4 j]
  simpa using hj
section
variable {H : Type} {enc : TypeId × Value → H}
theorem law_laid {C : Checked} {os : Os} {f : FuncId} {fn : Func} {s : ChangeSpec} {ks : List K} {pre : KS ks → Prop} {tb : TypeId} {G : Globs} {X : World → Array Value → Prop} (hX : ∀ (w w' : World) (args : Array Value), w.heap = w'.heap → X w args → X w' args) (hG : ∀ (w : World) (args : Array Value), X w args → GW G w (fun b => b < w.heap.size))
    (own : ownKnob C.prog.godebug = none) (started : os.Started) (noInit : C.prog.inits.idxOf? f = none)
    (hfn : C.prog.funcs[f]? = some fn) (hbody : fn.body.isSome = true) (hname : (fn.name == "runtime.NumGoroutine") = false)
    (witness : ∃ (w : World) (tape : Tape) (i : Input), w.os = os ∧ (w.forCall tape i).Shaped C.prog ∧ i.vars = [] ∧ Input.okWide C.prog (w.forCall tape i) .any w.heap.size f i ∧
      ((s.pre enc C.prog fn [] false (w.forCall tape i).memory i.args ∧ X (w.forCall tape i).memory i.args) ∧ sizedMet enc C.prog fn (OpenSpec.ofChange s) false (w.forCall tape i).memory i.args) ∧ ({} : Assume).holds C.prog (lone (Frame.enter C.prog f i.args .normal) [] (w.forCall tape i)))
    (hl : laidOutB C.prog = true) (hks : All2 (KT C.prog) fn.params.toList ks) (hread : ∀ t ∈ fn.params.toList, C.prog.readableRec t = true ∧ t < C.prog.types.size)
    (hres : fn.resultTypes = #[tb]) (htb : C.prog.underlying tb = some .bool) (hs : LawSpec s ks.length)
    (hcon : (Con.det ks [.snap .bool] pre (fun _ => (true, ()))).holds C.prog G f) (hpre : ∀ x, KS.rng ks x → KS.wf ks x → pre x) :
    ReturnsInHanded {} C os f .any (fun w args => (s.pre enc C.prog fn [] false w args ∧ X w args) ∧ sizedMet enc C.prog fn (OpenSpec.ofChange s) false w args) (s.post enc C.prog fn false true false false) := by
  refine returnsInHanded_of_calls own started noInit witness ?_
  intro w tape i _ _ _ hok hp hholds
  obtain ⟨_, _, _, fn', hfn', _, _, _, _, hval⟩ := hok
  have e : fn' = fn := Option.some.inj (hfn'.symm.trans hfn)
  subst e
  obtain ⟨⟨⟨ds, gs, before, hw, hc⟩, hx⟩, hz⟩ := hp
  have hx := hX _ (w.forCall tape i) _ (by rfl) hx
  have hW := DataW.Whole.of_heap (w' := w.forCall tape i) (by rfl) hw
  have hwt := hz.weights hw
  generalize w.forCall tape i = W at *
  have hlt : ∀ p ∈ before, p.block < W.heap.size := fun p hp => hW.lt p hp
  obtain ⟨p, q, hA, hV, rfl, hfz, hnd⟩ := id hW
  rw [hs.1] at hV
  obtain ⟨rfl, rfl⟩ := trodVars_none hV
  have hvt : (OpenSpec.ofChange s).bare.plain.varTypes C.prog = [] := by
    show (s.plain.varTypes C.prog) = []
    unfold DataSpec.varTypes
    show s.vars.filterMap _ = []
    rw [hs.1]; rfl
  simp only [List.append_nil] at hwt hW hlt
  rw [hvt, List.append_nil, List.all_eq_true] at hwt
  obtain ⟨x, h1, h2, h3⟩ := args_rep hks hA (fun j t v ht hv => hval j t v (by simpa using ht) (by simpa using hv)) (fun m hm => by simpa using hwt m hm)
  have hspec := hcon W (fun b => b < W.heap.size) (fun _ h => h) x i.args.toList h1 (hG W _ hx) (hpre x h2 h1.wf)
  obtain ⟨code, hcode⟩ := Option.isSome_iff_exists.1 hbody
  have hcalls : Calls C.prog f i.args W fun e w' => ∃ v, e = .returned v ∧ Grows W w' ∧ ResRep W w' (fun b => b < W.heap.size) [.snap .bool] (true, ()) v := by
    rcases hspec with ⟨v, w', g1, _⟩ | ⟨_, g2⟩
    · have := callFunc_run hfn hcode hname i.args.toList.toArray W
      rw [this] at g1; cases g1
    · simpa using g2
  refine hcalls.mono fun e W' ⟨v, he, hg, hr⟩ => ?_
  subst he
  refine ChangeSpec.post_blind ?_
  have hv : v = .bool true := by
    obtain ⟨vs, obs, hv, _, v0, vr, o1, o2, rfl, _, ⟨_, h5⟩, rfl, _⟩ := hr
    rw [hv]
    exact (List.cons.inj h5).1
  subst hv
  have hds := hs.2 H ds h3
  have hb : Below W.heap.size W W' := ⟨hg.os, hg.tape, hg.output, hg.size, hg.keep⟩
  refine ⟨ds, [], p, [], p, [], hW, ?_, ?_, ?_, World.keptBut_mono (fun p hp => ⟨hp, .inr (.inl hp)⟩) (hb.frame (· ∈ p)), fun h => by cases h⟩
  · rw [List.append_nil, hds, hres]
    exact trodAll_mk1 (RowKit.shut_bool htb true)
  · rw [List.append_nil, hds]
    exact args_keep hl hg hread hA hlt (fun x hx => by simpa using hlt x hx)
  · rw [List.append_nil, hds, hs.1]
    rfl
end
end Go.Lift

set_option linter.unusedVariables false
set_option linter.unusedSimpArgs false
namespace Go.Lift
theorem rngI {n : Int} (h : K.rng (.int .i64) n) : I64 n := by
  have h' : (decide (IntKind.i64.min ≤ n) && decide (n ≤ IntKind.i64.max)) = true := h
  simp [IntKind.min, IntKind.max, IntKind.bits, IntKind.signed] at h'
  unfold I64; omega
theorem rngU8 {n : Int} (h : K.rng (.int .u8) n) : U8 n := by
  have h' : (decide (IntKind.u8.min ≤ n) && decide (n ≤ IntKind.u8.max)) = true := h
  simp [IntKind.min, IntKind.max, IntKind.bits, IntKind.signed] at h'
  unfold U8; omega
theorem rngB {b : List Int} (h : K.rng (.slice (.int .u8)) b) : BLs b := fun x hx => rngU8 (h x hx)
end Go.Lift

namespace Go.Proofs.YtomopcclgokehaaGreatDoor
open Go.Lift
theorem own : ownKnob Tryz.checked.prog.godebug = none := by kernel_rfl
theorem laidOut : laidOutB Tryz.checked.prog = true := by kernel_rfl
theorem gFr : Tryz.prog.globalNamed "tarn/geom.frames" = some 2 := by kernel_rfl
theorem tFr : (Tryz.prog.globals[2]?).map (·.type) = some 176 := by kernel_rfl
theorem gFc : Tryz.prog.globalNamed "tarn/cube.frames" = some 1 := by kernel_rfl
theorem tFc : (Tryz.prog.globals[1]?).map (·.type) = some 157 := by kernel_rfl
def laidL : List (String × DataW Unit) := [("tarn/cube.frames", Rows.laid_tarn_cube_frames), ("tarn/geom.frames", Rows.laid_tarn_geom_frames)]
theorem door_met (os : Os) (args : Array Value) : laidMetH Tryz.prog laidL ((World.doorLaid Tryz.prog 400 os).forCall (fun _ _ => 0) ⟨#[], args, []⟩).memory :=
  laidMetH_of_parts3 (fuel := 8) (laidMet_of_run' 8 (by kernel_rfl) (by kernel_rfl)) (by kernel_rfl) (by kernel_rfl)
theorem laid_globs (w : World) (h : laidMetH Tryz.prog laidL w) : GW NG w (fun b => b < w.heap.size) := by
  rw [MakeChecks.laidMetH_plain _ _ _ (by kernel_rfl)] at h
  intro g k x hg
  unfold NG at hg
  split at hg
  · cases hg
    exact laid_rep h (n := "tarn/cube.frames") List.mem_cons_self gFc tFc (ktB_sound 9 157 _ (by kernel_rfl)) (by kernel_rfl)
  · cases hg
    exact laid_rep h (n := "tarn/geom.frames") (List.mem_cons_of_mem _ List.mem_cons_self) gFr tFr (ktB_sound 9 176 _ (by kernel_rfl)) (by kernel_rfl)
  · cases hg
end Go.Proofs.YtomopcclgokehaaGreatDoor

set_option linter.unusedVariables false
set_option linter.unusedSimpArgs false
namespace Go.Lift
open Go
theorem uB {c : Int} (h : U8 c) : IntKind.u64.wrap c = c := wu _ ⟨h.1, by have := h.2; omega⟩
theorem iB {c : Int} (h : U8 c) : IntKind.i64.wrap c = c := wi ⟨by have := h.1; omega, by have := h.2; omega⟩
theorem uw_rng (x : Int) : U64 (uw x) := by unfold uw; rw [IntKind.wrap_u64]; exact ⟨by omega, by omega⟩
theorem getB {b : List Int} (hb : BLs b) (i : Nat) : U8 (b.getD i 0) := by
  rcases Nat.lt_or_ge i b.length with h | h
  · exact hb _ (getD_mem h 0)
  · rw [List.getD_eq_getElem?_getD, List.getElem?_eq_none h]; exact ⟨by decide, by decide⟩
theorem sumF_rng (b : List Int) : U64 (sumF b) := by
  unfold sumF
  rcases List.eq_nil_or_concat b with rfl | ⟨l, c, rfl⟩
  · exact ⟨by decide, by decide⟩
  · rw [List.concat_eq_append, List.foldl_append]; exact uw_rng _
theorem sumF_snoc (b : List Int) (c : Int) : sumF (b ++ [c]) = sumStep (sumF b) c := by unfold sumF; rw [List.foldl_append]; rfl
theorem sumF_take {b : List Int} {k : Nat} (h : k < b.length) : sumF (b.take (k + 1)) = sumStep (sumF (b.take k)) (b.getD k 0) := by rw [take_step h 0, sumF_snoc]
theorem leN_len : ∀ (n : Nat) (x : Int), (leN n x).length = n
  | 0, _ => rfl
  | n + 1, x => by show (leN n (x / 256)).length + 1 = n + 1; rw [leN_len n]
theorem le8_len (x : Int) : (le8 x).length = 8 := leN_len 8 x
theorem leN_rng : ∀ (n : Nat) (x : Int), BLs (leN n x)
  | 0, _ => fun _ h => by cases h
  | n + 1, x => fun y h => by
    rcases List.mem_cons.1 h with rfl | h
    · exact ⟨by omega, by omega⟩
    · exact leN_rng n _ y h
theorem le8_rng (x : Int) : BLs (le8 x) := leN_rng 8 x
theorem BLs.app {a b : List Int} (ha : BLs a) (hb : BLs b) : BLs (a ++ b) := fun x h => (List.mem_append.1 h).elim (ha x) (hb x)
theorem BLs.take {a : List Int} (ha : BLs a) (n : Nat) : BLs (a.take n) := fun x h => ha x (List.mem_of_mem_take h)
theorem BLs.drop {a : List Int} (ha : BLs a) (n : Nat) : BLs (a.drop n) := fun x h => ha x (List.mem_of_mem_drop h)
theorem leL_rng (l : List Int) : BLs (leL l) := fun x h => by
  obtain ⟨y, _, hy⟩ := List.mem_flatMap.1 h
  exact le8_rng y x hy
theorem leL_snoc (l : List Int) (x : Int) : leL (l ++ [x]) = leL l ++ le8 x := by unfold leL; rw [List.flatMap_append]; simp
theorem leL_cons (x : Int) (l : List Int) : leL (x :: l) = le8 x ++ leL l := rfl
theorem leL_len : ∀ (l : List Int), (leL l).length = 8 * l.length
  | [] => rfl
  | x :: l => by rw [leL_cons, List.length_append, le8_len, leL_len l, List.length_cons]; omega
theorem leN_snoc : ∀ (n : Nat) (x : Int), leN (n + 1) x = leN n x ++ [x / 256 ^ n % 256]
  | 0, x => by show [x % 256] = [] ++ [x / 1 % 256]; rw [Int.ediv_one]; rfl
  | n + 1, x => by
    show x % 256 :: leN (n + 1) (x / 256) = _
    rw [leN_snoc n]
    show _ = x % 256 :: (leN n (x / 256) ++ [x / 256 ^ (n + 1) % 256])
    rw [Int.pow_succ', Int.ediv_ediv_of_nonneg (by decide)]
theorem putLoop {HA HB : Prop} {b : List Int} {v : Int} {K : List Int × Int × Int × Unit → Prop} (ha : HA) (hb : HB) (hl : b.length + 8 ≤ 140737488355328) (hv : U64 v) (hk : K (b ++ le8 v, 0, 8, ())) :
    HA ∧ ∃ (I : List Int × Int × Int × Unit → Unit → Prop), ∃ (μ : List Int × Int × Int × Unit → Unit → Nat), I (b, v, (0 : Int), ()) () ∧ ∀ (x : List Int × Int × Int × Unit) (y : Unit), I x y → ∀ (a : Bool), a = decide (x.snd.snd.fst < (8 : Int)) →
      Br a (∃ (h : x.fst.length = x.fst.length ∧ (x.fst.length + (1 : Nat)) * (1 : Nat) ≤ (140737488355328 : Nat)), ∃ (h : (0 : Int) ≤ (8 : Int)), ((0 : Nat) = (0 : Nat) ∧ x.fst.length + (1 : Nat) = (x.fst ++ [IntKind.u8.wrap x.snd.fst]).length) ∧ HB ∧
        I (x.fst ++ [IntKind.u8.wrap x.snd.fst], x.snd.fst.fdiv ((2 : Int) ^ Min.min (Int.toNat (8 : Int)) IntKind.u64.bits), IntKind.i64.wrap (x.snd.snd.fst + (1 : Int)), ()) () ∧
        μ (x.fst ++ [IntKind.u8.wrap x.snd.fst], x.snd.fst.fdiv ((2 : Int) ^ Min.min (Int.toNat (8 : Int)) IntKind.u64.bits), IntKind.i64.wrap (x.snd.snd.fst + (1 : Int)), ()) () < μ x y) (K x) := by
  refine ⟨ha, fun x _ => ∃ k : Nat, x.2.2.1 = k ∧ k ≤ 8 ∧ x.1 = b ++ leN k v ∧ x.2.1 = v / 256 ^ k, fun x _ => 8 - x.2.2.1.toNat, ⟨0, rfl, by omega, (List.append_nil b).symm, (Int.ediv_one v).symm⟩, ?_⟩
  rintro ⟨_, _, _, ⟨⟩⟩ _ ⟨k, rfl, hk8, rfl, rfl⟩
  dsimp only
  rintro _ rfl
  refine Br.intro (fun e => ?_) fun e => ?_
  · have e : k < 8 := by have := of_decide_eq_true e; omega
    have e2 : (2 : Int) ^ Min.min (Int.toNat (8 : Int)) IntKind.u64.bits = 256 := by decide
    rw [wi_succ e (by omega), e2, wrap_u8, Int.fdiv_eq_ediv_of_nonneg _ (by omega)]
    refine ⟨⟨rfl, by rw [List.length_append, leN_len]; omega⟩, by decide, ⟨rfl, by simp [List.length_append]; omega⟩, hb, ⟨k + 1, rfl, by omega, ?_, ?_⟩, by omega⟩
    · rw [leN_snoc, List.append_assoc]
    · rw [Int.pow_succ, Int.ediv_ediv_of_nonneg (Int.le_of_lt (Int.pow_pos (by decide)))]
  · have e : k = 8 := by have := of_decide_eq_false e; omega
    subst e
    have p8 : (256 : Int) ^ 8 = 18446744073709551616 := by decide
    obtain ⟨h1, h2⟩ := hv
    have hz : v / 256 ^ 8 = 0 := Int.ediv_eq_zero_of_lt h1 (by omega)
    rw [hz]
    exact hk
def leS (v : Nat → Int) (k : Nat) : List Int := leL ((List.range k).map v)
theorem leS_succ (v : Nat → Int) (k : Nat) : leS v (k + 1) = leS v k ++ le8 (v k) := by unfold leS; rw [List.range_succ, List.map_append]; exact leL_snoc _ _
theorem leS_len (v : Nat → Int) (k : Nat) : (leS v k).length = 8 * k := by unfold leS; rw [leL_len, List.length_map, List.length_range]
theorem range_getD {α : Type} (l : List α) (d : α) : (List.range l.length).map (fun i => l.getD i d) = l := by
  apply List.ext_getElem?
  intro i
  rw [List.getElem?_map]
  rcases Nat.lt_or_ge i l.length with h | h
  · rw [List.getElem?_range h]; simp [h]
  · rw [List.getElem?_eq_none h, List.getElem?_eq_none (by simpa using h)]; rfl
theorem leS_all {α : Type} (l : List α) (d : α) (up : α → Int) : leS (fun i => up (l.getD i d)) l.length = leL (l.map up) := by
  unfold leS
  conv => rhs; rw [← range_getD l d, List.map_map]
  rfl
theorem leS_app (b0 : List Int) (v : Nat → Int) (k : Nat) : b0 ++ leS v k ++ le8 (v k) = b0 ++ leS v (k + 1) := by rw [leS_succ, List.append_assoc]
theorem forPut {HA : Prop} {n : Nat} {f : Nat → List Int} {b0 : List Int} {K : List Int × Int × Unit → Prop} {Body : (List Int × Int × Unit → Unit → Prop) → (List Int × Int × Unit → Unit → Nat) → List Int × Int × Unit → Unit → Prop}
    (ha : HA) (h0 : f 0 = b0) (hn : n ≤ 9223372036854775806)
    (hb : ∀ (I : List Int × Int × Unit → Unit → Prop) (μ : List Int × Int × Unit → Unit → Nat) (k : Nat) (y : Unit), k < n → I (f (k + 1), IntKind.i64.wrap ((k : Int) + 1), ()) () → μ (f (k + 1), IntKind.i64.wrap ((k : Int) + 1), ()) () < μ (f k, (k : Int), ()) y → Body I μ (f k, (k : Int), ()) y)
    (hk : K (f n, (n : Int), ())) :
    HA ∧ ∃ (I : List Int × Int × Unit → Unit → Prop), ∃ (μ : List Int × Int × Unit → Unit → Nat), I (b0, (0 : Int), ()) () ∧ ∀ (x : List Int × Int × Unit) (y : Unit), I x y → ∀ (a : Bool), a = decide (x.snd.fst < (n : Int)) → Br a (Body I μ x y) (K x) := by
  refine ⟨ha, fun x _ => ∃ k : Nat, x.2.1 = k ∧ k ≤ n ∧ x.1 = f k, fun x _ => n - x.2.1.toNat, ⟨0, rfl, by omega, h0.symm⟩, ?_⟩
  rintro ⟨_, _, ⟨⟩⟩ y ⟨k, rfl, hkn, rfl⟩
  dsimp only
  rintro _ rfl
  refine Br.intro (fun e => ?_) fun e => ?_
  · have e : k < n := by have := of_decide_eq_true e; omega
    have w := wi_succ e (by omega)
    exact hb _ _ k y e ⟨k + 1, w, by omega, rfl⟩ (by simp only; rw [w]; omega)
  · have e : k = n := by have := of_decide_eq_false e; omega
    subst e
    exact hk
theorem unL_rng : ∀ {l : List Int}, BLs l → 0 ≤ unL l ∧ unL l < 256 ^ l.length
  | [], _ => ⟨by decide, by decide⟩
  | c :: l, h => by
    obtain ⟨h1, h2⟩ := h c List.mem_cons_self
    obtain ⟨h3, h4⟩ := unL_rng (l := l) fun x hx => h x (List.mem_cons_of_mem _ hx)
    refine ⟨by show 0 ≤ c + 256 * unL l; omega, ?_⟩
    show c + 256 * unL l < 256 ^ (l.length + 1)
    rw [Int.pow_succ]
    omega
def unF (r : List Int) (i : Nat) : Int := unL ((r.take 8).drop i)
theorem unF_eight {r : List Int} (h : 8 ≤ r.length) : unF r 8 = 0 := by
  unfold unF
  rw [List.drop_eq_nil_of_le (by rw [List.length_take]; omega)]; rfl
theorem unF_step {r : List Int} (h : 8 ≤ r.length) {i : Nat} (hi : i < 8) : unF r i = r.getD i 0 + 256 * unF r (i + 1) := by
  unfold unF
  have hl : i < (r.take 8).length := by rw [List.length_take]; omega
  rw [drop_step hl 0]
  show (r.take 8).getD i 0 + 256 * _ = _
  have : (r.take 8).getD i 0 = r.getD i 0 := by
    rw [List.getD_eq_getElem?_getD, List.getD_eq_getElem?_getD, List.getElem?_take]; simp [hi]
  rw [this]
theorem unF_rng {r : List Int} (hr : BLs r) (h : 8 ≤ r.length) {i : Nat} (hi : i ≤ 8) : 0 ≤ unF r i ∧ unF r i < 256 ^ (8 - i) := by
  have := unL_rng ((hr.take 8).drop i)
  rw [List.length_drop, List.length_take, Nat.min_eq_left h] at this
  exact this
theorem unF_small {r : List Int} (hr : BLs r) (h : 8 ≤ r.length) {i : Nat} (hi : 1 ≤ i) (hi8 : i ≤ 8) : 0 ≤ unF r i ∧ unF r i < 72057594037927936 := by
  obtain ⟨h1, h2⟩ := unF_rng hr h hi8
  refine ⟨h1, Int.lt_of_lt_of_le h2 ?_⟩
  have : (256 : Int) ^ (8 - i) ≤ 256 ^ 7 := by
    have h3 := Int.ofNat_le.2 (show (256 : Nat) ^ (8 - i) ≤ 256 ^ 7 from Nat.pow_le_pow_right (by decide) (by omega))
    rw [Int.natCast_pow, Int.natCast_pow] at h3
    exact h3
  exact Int.le_trans this (by decide)
theorem nat64 {a : Nat} (h : a < 18446744073709551616) : (BitVec.ofInt 64 (a : Int)).toNat = a := by
  rw [BitVec.ofInt_natCast, BitVec.toNat_ofNat]; omega
theorem or_u64 {a b : Nat} (ha : a < 18446744073709551616) (hb : b < 18446744073709551616) : Go.bits .or .u64 (a : Int) (b : Int) = ((a ||| b : Nat) : Int) := by
  show IntKind.u64.wrap ((BitVec.ofInt 64 (a : Int) ||| BitVec.ofInt 64 (b : Int)).toNat : Int) = _
  rw [BitVec.toNat_or, nat64 ha, nat64 hb, IntKind.wrap_u64]
  have := Nat.or_lt_two_pow (n := 64) ha hb
  omega
theorem or_byte {x c : Int} (hx : 0 ≤ x ∧ x < 72057594037927936) (hc : U8 c) : Go.bits .or .u64 (IntKind.u64.wrap (x * (2 : Int) ^ Min.min (Int.toNat (8 : Int)) IntKind.u64.bits)) (IntKind.u64.wrap c) = c + 256 * x := by
  have e2 : (2 : Int) ^ Min.min (Int.toNat (8 : Int)) IntKind.u64.bits = 256 := by decide
  rw [e2, uB hc, wu (x * 256) ⟨by omega, by omega⟩]
  obtain ⟨m, rfl⟩ : ∃ k : Nat, x = k := ⟨x.toNat, by omega⟩
  obtain ⟨d, rfl⟩ : ∃ k : Nat, c = k := ⟨c.toNat, by have := hc.1; omega⟩
  have hd : d < 256 := by have := hc.2; omega
  have e3 : (m : Int) * 256 = ((256 * m : Nat) : Int) := by omega
  rw [e3, or_u64 (by omega) (by omega), show 256 * m = 2 ^ 8 * m from rfl, ← Nat.two_pow_add_eq_or_of_lt (i := 8) hd, show 2 ^ 8 * m = 256 * m from rfl]
  omega
theorem orLoop {HA HB : Prop} {r : List Int} {K : Int × Int × Unit → Prop} (ha : HA) (hb : HB) (hr : BLs r) (hl : 8 ≤ r.length) (hk : K (unL (r.take 8), -1, ())) :
    HA ∧ ∃ (I : Int × Int × Unit → Unit → Prop), ∃ (μ : Int × Int × Unit → Unit → Nat), I ((0 : Int), (7 : Int), ()) () ∧ ∀ (x : Int × Int × Unit) (y : Unit), I x y → ∀ (a : Bool), a = decide (x.snd.fst ≥ (0 : Int)) →
      Br a (∃ (h : (0 : Int) ≤ (8 : Int)), ∃ (h : (0 : Int) ≤ x.snd.fst ∧ x.snd.fst < (r.length : Int)), HB ∧
        I (Go.bits Go.BinOp.or IntKind.u64 (IntKind.u64.wrap (x.fst * (2 : Int) ^ Min.min (Int.toNat (8 : Int)) IntKind.u64.bits)) (IntKind.u64.wrap (r.getD x.snd.fst.toNat (0 : Int))), IntKind.i64.wrap (x.snd.fst - (1 : Int)), ()) () ∧
        μ (Go.bits Go.BinOp.or IntKind.u64 (IntKind.u64.wrap (x.fst * (2 : Int) ^ Min.min (Int.toNat (8 : Int)) IntKind.u64.bits)) (IntKind.u64.wrap (r.getD x.snd.fst.toNat (0 : Int))), IntKind.i64.wrap (x.snd.fst - (1 : Int)), ()) () < μ x y) (K x) := by
  refine ⟨ha, fun x _ => ∃ k : Nat, x.2.1 = 7 - (k : Int) ∧ k ≤ 8 ∧ x.1 = unF r (8 - k), fun x _ => (x.2.1 + 1).toNat, ⟨0, rfl, by omega, (unF_eight hl).symm⟩, ?_⟩
  rintro ⟨_, _, ⟨⟩⟩ _ ⟨k, rfl, hk8, rfl⟩
  dsimp only
  rintro _ rfl
  refine Br.intro (fun e => ?_) fun e => ?_
  · have e : k ≤ 7 := by have := of_decide_eq_true e; omega
    have e1 : ((7 : Int) - (k : Int)).toNat = 7 - k := by omega
    have st := unF_step hl (i := 7 - k) (by omega)
    rw [show 7 - k + 1 = 8 - k by omega] at st
    rw [e1, or_byte (unF_small hr hl (by omega) (by omega)) (getB hr _), wi ⟨by omega, by omega⟩]
    exact ⟨by decide, ⟨by omega, by omega⟩, hb, ⟨k + 1, by omega, by omega, by rw [← st]; congr 1; omega⟩, by omega⟩
  · have e : k = 8 := by have := of_decide_eq_false e; omega
    subst e
    exact hk
theorem unA_rng {b : List Int} (hb : BLs b) {p : Nat} (h : p + 8 ≤ b.length) : U64 (unA b p) := by
  have := unF_rng (r := b.drop p) (hb.drop p) (by rw [List.length_drop]; omega) (i := 0) (by omega)
  have p8 : (256 : Int) ^ (8 - 0) = 18446744073709551616 := by decide
  rw [p8] at this
  exact this
theorem tarnS_eq : strBytes { data := #[(84 : UInt8), (65 : UInt8), (82 : UInt8), (78 : UInt8)] } = tarnL := by decide
theorem headS (n : Int) : List.replicate (Int.toNat (0 : Int)) (0 : Int) ++ strBytes { data := #[(84 : UInt8), (65 : UInt8), (82 : UInt8), (78 : UInt8)] } ++ [IntKind.u8.wrap n] = tarnL ++ [n % 256] := by
  rw [tarnS_eq, wrap_u8]; rfl
theorem head_rng (n : Int) : BLs (tarnL ++ [n % 256]) := fun x h => by
  rcases List.mem_append.1 h with h | h
  · rcases List.mem_cons.1 h with rfl | h
    · exact ⟨by decide, by decide⟩
    rcases List.mem_cons.1 h with rfl | h
    · exact ⟨by decide, by decide⟩
    rcases List.mem_cons.1 h with rfl | h
    · exact ⟨by decide, by decide⟩
    rcases List.mem_cons.1 h with rfl | h
    · exact ⟨by decide, by decide⟩
    · cases h
  · obtain rfl : x = n % 256 := by simpa using h
    exact ⟨by omega, by omega⟩
theorem sea_sizes {n : Int} {s : Se} (h : (checkI n s).2 = 0) : (1 ≤ n ∧ n ≤ 32) ∧ (n * n ≤ 1024) ∧ (s.1.length : Int) = 6 * (n * n) ∧ (s.2.1.length : Int) = 6 * (n * n) ∧ (s.2.2.1.length : Int) = 6 * (n * n) ∧ (s.2.2.2.1.length : Int) = 12 * (n * n) := by
  obtain ⟨g, h1, h2, h3, h4⟩ := check_ok h
  have hg := goodC_iff.1 g
  rw [cells_good g] at h1 h2 h3 h4
  have a : n * n ≤ 32 * 32 := Int.mul_le_mul hg.2 hg.2 (by omega) (by omega)
  exact ⟨hg, a, h1, h2, h3, by omega⟩
theorem enI_bad {n : Int} {s : Se} (h : ((checkR n s).2.1 != (0 : Int)) = true) : ([], (checkR n s).2.1, ()) = enR n s := by
  have h : (checkI n s).2 ≠ 0 := bne_iff_ne.1 h
  unfold enR enI
  rw [if_neg h]; rfl
theorem sumR_fst (b : List Int) : (sumR b).1 = sumF b := rfl
theorem sumR_rng (b : List Int) : U64 (sumR b).1 := sumF_rng b
theorem enI_good {n : Int} {s : Se} (h : (checkI n s).2 = 0) : (seaL n s ++ le8 (sumR (seaL n s)).1, (0 : Int), ()) = enR n s := by
  have e1 : enI n s = (saveI n s, 0) := by unfold enI; rw [if_pos h]
  unfold enR
  rw [e1, sumR_fst]
  unfold saveI
  exact rfl
end Go.Lift

set_option linter.unusedVariables false
set_option linter.unusedSimpArgs false
namespace Go.Lift
open Go
theorem de_bad {b : List Int} {c : Int} (h : formI b = c) (hc : c ≠ 0) : ((0 : Int), sea0, c, ()) = deR b := by
  have e1 : deErr b = c := by unfold deErr; rw [h, if_neg hc]
  have e2 : deI b = (0, sea0, c) := by unfold deI; rw [e1, if_neg hc]
  unfold deR
  rw [e2]
theorem de_bad2 {b : List Int} {n : Int} {s : Se} (h : formI b = 0) (hn : n = sideA b) (hs : s = seaB b) (hc : (checkI n s).2 ≠ 0) : ((0 : Int), sea0, (checkR n s).2.1, ()) = deR b := by
  subst hn; subst hs
  have e1 : deErr b = (checkI (sideA b) (seaB b)).2 := by unfold deErr; rw [h, if_pos rfl]
  have e2 : deI b = (0, sea0, (checkI (sideA b) (seaB b)).2) := by unfold deI; rw [e1, if_neg hc]
  unfold deR
  rw [e2]; exact rfl
theorem de_good {b : List Int} {n : Int} {s : Se} (h : formI b = 0) (hn : n = sideA b) (hs : s = seaB b) (hc : (checkI n s).2 = 0) : (n, s, (0 : Int), ()) = deR b := by
  subst hn; subst hs
  have e1 : deErr b = 0 := by unfold deErr; rw [h, if_pos rfl, hc]
  have e2 : deI b = (sideA b, seaB b, 0) := by unfold deI; rw [e1, if_pos rfl]
  unfold deR
  rw [e2]
theorem form_31 {b : List Int} (h : b.length < 21) : formI b = 31 := by unfold formI; rw [if_pos h]
theorem form_30 {b : List Int} (h : ¬ b.length < 21) (h2 : b.take 4 ≠ tarnL ∨ sideA b < 1 ∨ sideA b > 32) : formI b = 30 := by
  unfold sideA at h2; unfold formI; rw [if_neg h, if_pos h2]
theorem form_31b {b : List Int} (h : ¬ b.length < 21) (h2 : ¬ (b.take 4 ≠ tarnL ∨ sideA b < 1 ∨ sideA b > 32)) (h3 : (b.length : Int) < sizeI (sideA b)) : formI b = 31 := by
  unfold sideA at h2 h3; unfold formI; rw [if_neg h, if_neg h2, if_pos h3]
theorem form_30b {b : List Int} (h : ¬ b.length < 21) (h2 : ¬ (b.take 4 ≠ tarnL ∨ sideA b < 1 ∨ sideA b > 32)) (h3 : ¬ (b.length : Int) < sizeI (sideA b)) (h4 : (b.length : Int) ≠ sizeI (sideA b)) : formI b = 30 := by
  unfold sideA at h2 h3 h4; unfold formI; rw [if_neg h, if_neg h2, if_neg h3, if_pos h4]
theorem form_32 {b : List Int} (h : ¬ b.length < 21) (h2 : ¬ (b.take 4 ≠ tarnL ∨ sideA b < 1 ∨ sideA b > 32)) (h4 : (b.length : Int) = sizeI (sideA b)) (h5 : unA b (b.length - 8) ≠ sumF (b.take (b.length - 8))) : formI b = 32 := by
  unfold sideA at h2 h4; unfold formI; rw [if_neg h, if_neg h2, if_neg (show ¬ (b.length : Int) < sizeI (b.getD 4 0) by omega), if_neg (show ¬ (b.length : Int) ≠ sizeI (b.getD 4 0) from fun q => q h4), if_pos h5]
theorem form_0 {b : List Int} (h : ¬ b.length < 21) (h2 : ¬ (b.take 4 ≠ tarnL ∨ sideA b < 1 ∨ sideA b > 32)) (h4 : (b.length : Int) = sizeI (sideA b)) (h5 : unA b (b.length - 8) = sumF (b.take (b.length - 8))) : formI b = 0 := by
  unfold sideA at h2 h4; unfold formI; rw [if_neg h, if_neg h2, if_neg (show ¬ (b.length : Int) < sizeI (b.getD 4 0) by omega), if_neg (show ¬ (b.length : Int) ≠ sizeI (b.getD 4 0) from fun q => q h4), if_neg (fun q => q h5)]
theorem headT {b : List Int} (hb : BLs b) : decide (List.map byteOf (List.take ((4 : Int) - (0 : Int)).toNat (List.drop (Int.toNat (0 : Int)) b)) = strBytes { data := #[(84 : UInt8), (65 : UInt8), (82 : UInt8), (78 : UInt8)] }) = decide (b.take 4 = tarnL) := by
  apply decide_eq_decide.2
  rw [tarnS_eq]
  show List.map byteOf (b.take 4) = _ ↔ _
  rw [map_byteOf fun z hz => hb z (List.mem_of_mem_take hz)]
theorem realsA_len (b : List Int) (p n : Nat) : (realsA b p n).length = n := by unfold realsA; rw [List.length_map, List.length_range]
theorem wholesA_len (b : List Int) (p n : Nat) : (wholesA b p n).length = n := by unfold wholesA; rw [List.length_map, List.length_range]
theorem realsA_succ (b : List Int) (p n : Nat) : realsA b p (n + 1) = realsA b p n ++ [(unA b (p + 8 * n)).toNat] := by unfold realsA; rw [List.range_succ, List.map_append]; rfl
theorem wholesA_succ (b : List Int) (p n : Nat) : wholesA b p (n + 1) = wholesA b p n ++ [iw (unA b (p + 8 * n))] := by unfold wholesA; rw [List.range_succ, List.map_append]; rfl
theorem realsA_rng {b : List Int} (hb : BLs b) {p n : Nat} (h : p + 8 * n ≤ b.length) : WL (realsA b p n) := by
  intro x hx
  obtain ⟨i, hi, rfl⟩ := List.mem_map.1 hx
  have hi := List.mem_range.1 hi
  obtain ⟨h1, h2⟩ := unA_rng hb (p := p + 8 * i) (by omega)
  unfold W64
  omega
theorem wholesA_rng (b : List Int) (p n : Nat) : ∀ x ∈ wholesA b p n, I64 x := by
  intro x hx
  obtain ⟨i, _, rfl⟩ := List.mem_map.1 hx
  exact wrap_rng _
theorem seaA_ok {b : List Int} (hb : BLs b) {N : Nat} (h : b.length = 29 + 40 * N) : SeaOk (seaA b N) :=
  ⟨realsA_rng hb (by omega), wholesA_rng _ _ _, wholesA_rng _ _ _, realsA_rng hb (by omega), wrap_rng _, wrap_rng _⟩
theorem set_fill {α : Type} {l : List α} {k n : Nat} (hl : l.length = k) (hk : k < n) (z v : α) : (l ++ List.replicate (n - k) z).set (0 + k) v = l ++ [v] ++ List.replicate (n - (k + 1)) z := by
  obtain ⟨m, hm⟩ : ∃ m, n - k = m + 1 := ⟨n - k - 1, by omega⟩
  rw [hm, show n - (k + 1) = m by omega, List.replicate_succ, Nat.zero_add, set_mid hl, List.append_assoc]
  rfl
theorem forS {HA : Prop} {σ : Type} {n : Nat} {F : Nat → σ} {x0 : σ} {ix : σ → Int} {K : σ → Prop} {Body : (σ → Unit → Prop) → (σ → Unit → Nat) → σ → Unit → Prop}
    (ha : HA) (h0 : F 0 = x0) (hix : ∀ k, ix (F k) = (k : Int))
    (hb : ∀ (I : σ → Unit → Prop) (μ : σ → Unit → Nat) (k : Nat) (y : Unit), k < n → I (F (k + 1)) () → μ (F (k + 1)) () < μ (F k) y → Body I μ (F k) y)
    (hk : K (F n)) :
    HA ∧ ∃ (I : σ → Unit → Prop), ∃ (μ : σ → Unit → Nat), I x0 () ∧ ∀ (x : σ) (y : Unit), I x y → ∀ (a : Bool), a = decide (ix x < (n : Int)) → Br a (Body I μ x y) (K x) := by
  refine ⟨ha, fun x _ => ∃ k : Nat, k ≤ n ∧ x = F k, fun x _ => n - (ix x).toNat, ⟨0, by omega, h0.symm⟩, ?_⟩
  rintro _ y ⟨k, hkn, rfl⟩
  rintro _ rfl
  refine Br.intro (fun e => ?_) fun e => ?_
  · have e : k < n := by have e := of_decide_eq_true e; rw [hix] at e; omega
    exact hb _ _ k y e ⟨k + 1, by omega, rfl⟩ (by simp only [hix]; omega)
  · have e : k = n := by have e := of_decide_eq_false e; rw [hix] at e; omega
    subst e
    exact hk
theorem rest5 (b : List Int) : List.take ((↑b.length : Int) - (5 : Int)).toNat (List.drop (Int.toNat (5 : Int)) b) = b.drop 5 := by
  show List.take _ (List.drop 5 b) = _
  rw [List.take_of_length_le (by rw [List.length_drop]; omega)]
theorem restD (b : List Int) (p : Nat) : List.take ((↑(b.drop p).length : Int) - (8 : Int)).toNat (List.drop (Int.toNat (8 : Int)) (b.drop p)) = b.drop (p + 8) := by
  show List.take _ (List.drop 8 (b.drop p)) = _
  rw [List.take_of_length_le (by rw [List.length_drop]; omega), List.drop_drop]
theorem restE {b : List Int} {w : Int} (h : 8 ≤ b.length) (hw : w = (b.length : Int) - 8) : List.take ((↑b.length : Int) - w).toNat (List.drop w.toNat b) = b.drop (b.length - 8) := by
  have e : w.toNat = b.length - 8 := by omega
  rw [e, List.take_of_length_le (by rw [List.length_drop]; omega)]
theorem side_nums {d : Int} (h1 : 1 ≤ d) (h2 : d ≤ 32) : ∃ N : Nat, N = 6 * d.toNat * d.toNat ∧ (N : Int) = 6 * (d * d) ∧ N ≤ 6144 ∧ IntKind.i64.wrap (IntKind.i64.wrap ((6 : Int) * d) * d) = (N : Int) ∧ sizeI d = 29 + 40 * (N : Int) := by
  obtain ⟨m, rfl⟩ : ∃ m : Nat, d = m := ⟨d.toNat, by omega⟩
  have a : (m : Int) * m ≤ 32 * 32 := Int.mul_le_mul h2 h2 (by omega) (by omega)
  have b : 0 ≤ (m : Int) * m := Int.mul_nonneg (by omega) (by omega)
  have e1 : ((6 * m * m : Nat) : Int) = 6 * ((m : Int) * m) := by rw [Nat.mul_assoc]; push_cast; rfl
  refine ⟨6 * m * m, by rw [Int.toNat_natCast], e1, by omega, ?_, ?_⟩
  · rw [wi (x := 6 * (m : Int)) ⟨by omega, by omega⟩, Int.mul_assoc, wi ⟨by omega, by omega⟩, e1]
  · unfold sizeI
    rw [e1, Int.mul_assoc]; omega
end Go.Lift

set_option linter.unusedVariables false
set_option linter.unusedSimpArgs false
namespace Go.Lift
open Go
theorem unL_leN : ∀ (n : Nat) (x : Int), 0 ≤ x → x < 256 ^ n → unL (leN n x) = x
  | 0, x, h0, h1 => by
    have : x < 1 := h1
    show (0 : Int) = x
    omega
  | n + 1, x, h0, h1 => by
    show x % 256 + 256 * unL (leN n (x / 256)) = x
    rw [unL_leN n (x / 256) (by omega) (Int.ediv_lt_of_lt_mul (by decide) (by rw [Int.pow_succ] at h1; exact h1))]
    omega
theorem p8 : (256 : Int) ^ 8 = 18446744073709551616 := by decide
theorem unL_le8 {x : Int} (h : U64 x) : unL (le8 x) = x := unL_leN 8 x h.1 (by rw [p8]; exact h.2)
theorem iw_uw {x : Int} (h : I64 x) : iw (uw x) = x := by
  obtain ⟨h1, h2⟩ := h
  unfold uw iw
  rw [IntKind.wrap_u64]
  simp [IntKind.wrap, IntKind.bits, IntKind.signed]
  split <;> omega
theorem leL_app (l m : List Int) : leL (l ++ m) = leL l ++ leL m := by unfold leL; rw [List.flatMap_append]
theorem unA_app {pre : List Int} {x : Int} {post : List Int} (h : U64 x) {p : Nat} (hp : p = pre.length) : unA (pre ++ (le8 x ++ post)) p = x := by
  subst hp
  unfold unA
  rw [List.drop_left, List.take_left' (le8_len x), unL_le8 h]
theorem unA_leL {pre m post : List Int} {i : Nat} (hi : i < m.length) (hm : U64 (m.getD i 0)) {p : Nat} (hp : p = pre.length) : unA (pre ++ (leL m ++ post)) (p + 8 * i) = m.getD i 0 := by
  subst hp
  have e : pre ++ (leL m ++ post) = (pre ++ leL (m.take i)) ++ (le8 (m.getD i 0) ++ (leL (m.drop (i + 1)) ++ post)) := by
    conv => lhs; rw [← List.take_append_drop i m, drop_step hi 0, leL_app, leL_cons]
    simp only [List.append_assoc]
  rw [e]
  refine unA_app hm ?_
  rw [List.length_append, leL_len, List.length_take, Nat.min_eq_left (by omega)]
theorem realsA_leL {pre post : List Int} {l : List Nat} (hl : WL l) {p n : Nat} (hp : p = pre.length) (hn : n = l.length) : realsA (pre ++ (leL (l.map fun (x : Nat) => (x : Int)) ++ post)) p n = l := by
  subst hn
  unfold realsA
  conv => rhs; rw [← range_getD l 0]
  refine List.map_congr_left fun i hi => ?_
  have hi := List.mem_range.1 hi
  have e : (l.map fun (x : Nat) => (x : Int)).getD i 0 = ((l.getD i 0 : Nat) : Int) := by
    rw [List.getD_eq_getElem?_getD, List.getD_eq_getElem?_getD, List.getElem?_map, List.getElem?_eq_getElem hi]; rfl
  have hw : W64 (l.getD i 0) := hl _ (getD_mem hi 0)
  rw [unA_leL (by rw [List.length_map]; exact hi) (by rw [e]; unfold W64 at hw; exact ⟨Int.natCast_nonneg _, by omega⟩) hp, e, Int.toNat_natCast]
theorem wholesA_leL {pre post : List Int} {l : List Int} (hl : ∀ x ∈ l, I64 x) {p n : Nat} (hp : p = pre.length) (hn : n = l.length) : wholesA (pre ++ (leL (l.map uw) ++ post)) p n = l := by
  subst hn
  unfold wholesA
  conv => rhs; rw [← range_getD l 0]
  refine List.map_congr_left fun i hi => ?_
  have hi := List.mem_range.1 hi
  have e : (l.map uw).getD i 0 = uw (l.getD i 0) := by
    rw [List.getD_eq_getElem?_getD, List.getD_eq_getElem?_getD, List.getElem?_map, List.getElem?_eq_getElem hi]; rfl
  rw [unA_leL (by rw [List.length_map]; exact hi) (by rw [e]; exact uw_rng _) hp, e, iw_uw (hl _ (getD_mem hi 0))]
theorem headL_len (n : Int) (s : Se) : (headL n s).length = 21 := by
  unfold headL
  rw [List.length_append, List.length_append, le8_len, le8_len]; rfl
theorem headL_rng (n : Int) (s : Se) : BLs (headL n s) := ((head_rng n).app (le8_rng _)).app (le8_rng _)
theorem restL_rng (s : Se) : BLs (restL s) := (((leL_rng _).app (leL_rng _)).app (leL_rng _)).app (leL_rng _)
theorem seaL_rng (n : Int) (s : Se) : BLs (seaL n s) := (headL_rng n s).app (restL_rng s)
theorem saveI_rng (n : Int) (s : Se) : BLs (saveI n s) := (seaL_rng n s).app (le8_rng _)
theorem restL_len (s : Se) : (restL s).length = 8 * s.1.length + 8 * s.2.1.length + 8 * s.2.2.1.length + 8 * s.2.2.2.1.length := by
  unfold restL
  rw [List.length_append, List.length_append, List.length_append, leL_len, leL_len, leL_len, leL_len, List.length_map, List.length_map, List.length_map, List.length_map]
theorem seaL_len (n : Int) (s : Se) : (seaL n s).length = 21 + (8 * s.1.length + 8 * s.2.1.length + 8 * s.2.2.1.length + 8 * s.2.2.2.1.length) := by
  unfold seaL
  rw [List.length_append, headL_len, restL_len]
theorem saveI_len (n : Int) (s : Se) : (saveI n s).length = (seaL n s).length + 8 := by
  unfold saveI
  rw [List.length_append, le8_len]
theorem save_sizes {n : Int} {s : Se} (h : (checkI n s).2 = 0) : ∃ N : Nat, N = 6 * n.toNat * n.toNat ∧ N ≤ 6144 ∧ sizeI n = 29 + 40 * (N : Int) ∧ s.1.length = N ∧ s.2.1.length = N ∧ s.2.2.1.length = N ∧ s.2.2.2.1.length = 2 * N ∧ (seaL n s).length = 21 + 40 * N ∧ 1 ≤ n ∧ n ≤ 32 := by
  obtain ⟨⟨h1, h2⟩, _, l1, l2, l3, l4⟩ := sea_sizes h
  obtain ⟨N, e1, e2, e3, _, e5⟩ := side_nums h1 h2
  refine ⟨N, e1, e3, e5, by omega, by omega, by omega, by omega, ?_, h1, h2⟩
  rw [seaL_len]
  omega
theorem saveI_side {n : Int} {s : Se} (h1 : 1 ≤ n) (h2 : n ≤ 32) (post : List Int) : sideA (seaL n s ++ post) = n := by
  show n % 256 = n
  omega
theorem saveI_word (n : Int) (s : Se) (post : List Int) : (seaL n s ++ post).take 4 = tarnL := rfl
theorem seaA_save {n : Int} {s : Se} (hok : SeaOk s) {N : Nat} (l1 : s.1.length = N) (l2 : s.2.1.length = N) (l3 : s.2.2.1.length = N) (l4 : s.2.2.2.1.length = 2 * N) (post : List Int) : seaA (seaL n s ++ post) N = s := by
  obtain ⟨a1, a2, a3, a4, a5, a6⟩ := s
  obtain ⟨w1, w2, w3, w4, w5, w6⟩ := hok
  dsimp only at l1 l2 l3 l4 w1 w2 w3 w4 w5 w6
  have z := headL_len n (a1, a2, a3, a4, a5, a6)
  have q1 : leL (a1.map fun (x : Nat) => (x : Int)) = leL (a1.map fun (x : Nat) => (x : Int)) := rfl
  unfold seaA
  have r1 : realsA (seaL n (a1, a2, a3, a4, a5, a6) ++ post) 21 N = a1 := by
    have e : seaL n (a1, a2, a3, a4, a5, a6) ++ post = headL n (a1, a2, a3, a4, a5, a6) ++ (leL (a1.map fun (x : Nat) => (x : Int)) ++ (leL (a2.map uw) ++ (leL (a3.map uw) ++ (leL (a4.map fun (x : Nat) => (x : Int)) ++ post)))) := by
      simp only [seaL, restL, List.append_assoc]
    rw [e]
    exact realsA_leL w1 z.symm l1.symm
  have r2 : wholesA (seaL n (a1, a2, a3, a4, a5, a6) ++ post) (21 + 8 * N) N = a2 := by
    have e : seaL n (a1, a2, a3, a4, a5, a6) ++ post = (headL n (a1, a2, a3, a4, a5, a6) ++ leL (a1.map fun (x : Nat) => (x : Int))) ++ (leL (a2.map uw) ++ (leL (a3.map uw) ++ (leL (a4.map fun (x : Nat) => (x : Int)) ++ post))) := by
      simp only [seaL, restL, List.append_assoc]
    rw [e]
    exact wholesA_leL w2 (by rw [List.length_append, z, leL_len, List.length_map, l1]) l2.symm
  have r3 : wholesA (seaL n (a1, a2, a3, a4, a5, a6) ++ post) (21 + 16 * N) N = a3 := by
    have e : seaL n (a1, a2, a3, a4, a5, a6) ++ post = (headL n (a1, a2, a3, a4, a5, a6) ++ leL (a1.map fun (x : Nat) => (x : Int)) ++ leL (a2.map uw)) ++ (leL (a3.map uw) ++ (leL (a4.map fun (x : Nat) => (x : Int)) ++ post)) := by
      simp only [seaL, restL, List.append_assoc]
    rw [e]
    exact wholesA_leL w3 (by rw [List.length_append, List.length_append, z, leL_len, leL_len, List.length_map, List.length_map, l1, l2]; omega) l3.symm
  have r4 : realsA (seaL n (a1, a2, a3, a4, a5, a6) ++ post) (21 + 24 * N) (2 * N) = a4 := by
    have e : seaL n (a1, a2, a3, a4, a5, a6) ++ post = (headL n (a1, a2, a3, a4, a5, a6) ++ leL (a1.map fun (x : Nat) => (x : Int)) ++ leL (a2.map uw) ++ leL (a3.map uw)) ++ (leL (a4.map fun (x : Nat) => (x : Int)) ++ post) := by
      simp only [seaL, restL, List.append_assoc]
    rw [e]
    exact realsA_leL w4 (by rw [List.length_append, List.length_append, List.length_append, z, leL_len, leL_len, leL_len, List.length_map, List.length_map, List.length_map, l1, l2, l3]; omega) l4.symm
  have r5 : unA (seaL n (a1, a2, a3, a4, a5, a6) ++ post) 13 = uw a5 := by
    have e : seaL n (a1, a2, a3, a4, a5, a6) ++ post = (tarnL ++ [n % 256] ++ le8 (uw a6)) ++ (le8 (uw a5) ++ (restL (a1, a2, a3, a4, a5, a6) ++ post)) := by
      simp only [seaL, headL, List.append_assoc]
    rw [e]
    exact unA_app (uw_rng _) (by rw [List.length_append, le8_len]; rfl)
  have r6 : unA (seaL n (a1, a2, a3, a4, a5, a6) ++ post) 5 = uw a6 := by
    have e : seaL n (a1, a2, a3, a4, a5, a6) ++ post = (tarnL ++ [n % 256]) ++ (le8 (uw a6) ++ (le8 (uw a5) ++ (restL (a1, a2, a3, a4, a5, a6) ++ post))) := by
      simp only [seaL, headL, List.append_assoc]
    rw [e]
    exact unA_app (uw_rng _) rfl
  rw [r1, r2, r3, r4, r5, r6, iw_uw w5, iw_uw w6]
theorem de_en {n : Int} {s : Se} (h : (checkI n s).2 = 0) (hok : SeaOk s) : formI (saveI n s) = 0 ∧ sideA (saveI n s) = n ∧ seaB (saveI n s) = s ∧ deR (saveI n s) = (n, s, 0, ()) := by
  obtain ⟨N, e1, e2, e3, l1, l2, l3, l4, l5, h1, h2⟩ := save_sizes h
  have hl : (saveI n s).length = 29 + 40 * N := by rw [saveI_len, l5]; omega
  have hs : sideA (saveI n s) = n := saveI_side h1 h2 _
  have hw : (saveI n s).take 4 = tarnL := saveI_word n s _
  have hsea : seaB (saveI n s) = s := by
    unfold seaB
    rw [hs, ← e1]
    exact seaA_save hok l1 l2 l3 l4 _
  have hf : formI (saveI n s) = 0 := by
    refine form_0 (by omega) (by rw [hs, hw]; rintro (q | q | q); exact q rfl; omega; omega) (by rw [hs, e3]; omega) ?_
    have e : (saveI n s).length - 8 = (seaL n s).length := by rw [saveI_len]; omega
    rw [e]
    unfold saveI
    rw [List.take_left]
    have := unA_app (pre := seaL n s) (x := sumF (seaL n s)) (post := []) (sumF_rng _) (p := (seaL n s).length) rfl
    rw [List.append_nil] at this
    exact this
  exact ⟨hf, hs, hsea, (de_good hf hs.symm hsea.symm h).symm⟩
end Go.Lift

set_option linter.unusedVariables false
set_option linter.unusedSimpArgs false
namespace Go.Lift
open Go
theorem xor_u64 {a b : Nat} (ha : a < 18446744073709551616) (hb : b < 18446744073709551616) : Go.bits .xor .u64 (a : Int) (b : Int) = ((a ^^^ b : Nat) : Int) := by
  show IntKind.u64.wrap ((BitVec.ofInt 64 (a : Int) ^^^ BitVec.ofInt 64 (b : Int)).toNat : Int) = _
  rw [BitVec.toNat_xor, nat64 ha, nat64 hb, IntKind.wrap_u64]
  have := Nat.xor_lt_two_pow (n := 64) ha hb
  omega
theorem xor_c {a b c : Nat} (h : a ^^^ b = a ^^^ c) : b = c := by
  have e : a ^^^ (a ^^^ b) = a ^^^ (a ^^^ c) := by rw [h]
  rw [← Nat.xor_assoc, ← Nat.xor_assoc, Nat.xor_self, Nat.zero_xor, Nat.zero_xor] at e
  exact e
theorem mul_inj_gen {x y P M Q K q1 q2 : Int} (h : x * P - M * q1 = y * P - M * q2) (k : P * Q = 1 + M * K) : x - y = M * ((q1 - q2) * Q - (x - y) * K) := by
  have a : (x - y) * P = M * (q1 - q2) := by
    rw [Int.sub_mul, Int.mul_sub]
    omega
  have b : (x - y) * (P * Q) = M * ((q1 - q2) * Q) := by rw [← Int.mul_assoc, a, Int.mul_assoc]
  rw [k, Int.mul_add, Int.mul_one, Int.mul_left_comm (x - y) M K] at b
  rw [Int.mul_sub, ← b]
  omega
theorem mul_lt {x y t : Int} (hx : U64 x) (hy : U64 y) (h : x - y = 18446744073709551616 * t) : x = y := by
  obtain ⟨x1, x2⟩ := hx
  obtain ⟨y1, y2⟩ := hy
  omega
theorem mul_inj {x y : Int} (hx : U64 x) (hy : U64 y) (h : uw (x * 1099511628211) = uw (y * 1099511628211)) : x = y := by
  unfold uw at h
  rw [IntKind.wrap_u64, IntKind.wrap_u64, Int.emod_def, Int.emod_def] at h
  exact mul_lt hx hy (mul_inj_gen (Q := 14886173955864302971) (K := 887285111055) h (by decide))
theorem sumStep_inj {h h' c c' : Int} (u : U64 h) (u' : U64 h') (v : U8 c) (v' : U8 c') (e : sumStep h c = sumStep h' c') : (h = h' → c = c') ∧ (c = c' → h = h') := by
  obtain ⟨a, rfl⟩ : ∃ k : Nat, h = k := ⟨h.toNat, by have := u.1; omega⟩
  obtain ⟨a', rfl⟩ : ∃ k : Nat, h' = k := ⟨h'.toNat, by have := u'.1; omega⟩
  obtain ⟨d, rfl⟩ : ∃ k : Nat, c = k := ⟨c.toNat, by have := v.1; omega⟩
  obtain ⟨d', rfl⟩ : ∃ k : Nat, c' = k := ⟨c'.toNat, by have := v'.1; omega⟩
  have ha : a < 18446744073709551616 := by have := u.2; omega
  have ha' : a' < 18446744073709551616 := by have := u'.2; omega
  have hd : d < 18446744073709551616 := by have := v.2; omega
  have hd' : d' < 18446744073709551616 := by have := v'.2; omega
  unfold sumStep at e
  rw [xor_u64 ha hd, xor_u64 ha' hd'] at e
  have x1 := Nat.xor_lt_two_pow (n := 64) ha hd
  have x2 := Nat.xor_lt_two_pow (n := 64) ha' hd'
  have p64 : (2 : Nat) ^ 64 = 18446744073709551616 := by decide
  have q := mul_inj (x := ((a ^^^ d : Nat) : Int)) (y := ((a' ^^^ d' : Nat) : Int)) ⟨by omega, by omega⟩ ⟨by omega, by omega⟩ e
  have q : a ^^^ d = a' ^^^ d' := by omega
  refine ⟨fun e1 => ?_, fun e1 => ?_⟩
  · have e1 : a = a' := by omega
    subst e1
    rw [xor_c q]
  · have e1 : d = d' := by omega
    subst e1
    have : d ^^^ a = d ^^^ a' := by rw [Nat.xor_comm, q, Nat.xor_comm]
    rw [xor_c this]
theorem sumStep_rng (h c : Int) : U64 (sumStep h c) := uw_rng _
theorem fold_inj : ∀ (l : List Int) (h h' : Int), BLs l → U64 h → U64 h' → l.foldl sumStep h = l.foldl sumStep h' → h = h'
  | [], h, h', _, _, _, e => e
  | c :: l, h, h', hl, u, u', e => by
    have q := fold_inj l _ _ (fun x hx => hl x (List.mem_cons_of_mem _ hx)) (sumStep_rng h c) (sumStep_rng h' c) e
    exact (sumStep_inj u u' (hl c List.mem_cons_self) (hl c List.mem_cons_self) q).2 rfl
theorem sumF_turned {b : List Int} (hb : BLs b) {p : Nat} (hp : p < b.length) {v : Int} (hv : U8 v) (hne : v ≠ b.getD p 0) : sumF (b.set p v) ≠ sumF b := by
  intro e
  have e1 : b.set p v = b.take p ++ v :: b.drop (p + 1) := by rw [List.set_eq_take_append_cons_drop, if_pos hp]
  have e2 : b = b.take p ++ b.getD p 0 :: b.drop (p + 1) := by rw [← drop_step hp 0, List.take_append_drop]
  rw [e1] at e
  conv at e => rhs; rw [e2]
  unfold sumF at e
  rw [List.foldl_append, List.foldl_append, List.foldl_cons, List.foldl_cons] at e
  have u : U64 ((b.take p).foldl sumStep 14695981039346656037) := sumF_rng (b.take p)
  have q := fold_inj _ _ _ (hb.drop (p + 1)) (sumStep_rng _ _) (sumStep_rng _ _) e
  exact hne ((sumStep_inj u u hv (getB hb p) q).1 rfl)
theorem sumF_app (b c : List Int) : sumF (b ++ c) = c.foldl sumStep (sumF b) := by unfold sumF; rw [List.foldl_append]
theorem xor_u8n {a x : Int} (ha : U8 a) (hx : U8 x) (h : x ≠ 0) : U8 (Go.bits .xor .u8 a x) ∧ Go.bits .xor .u8 a x ≠ a := by
  obtain ⟨m, rfl⟩ : ∃ k : Nat, a = k := ⟨a.toNat, by have := ha.1; omega⟩
  obtain ⟨d, rfl⟩ : ∃ k : Nat, x = k := ⟨x.toNat, by have := hx.1; omega⟩
  have hm : m < 256 := by have := ha.2; omega
  have hd : d < 256 := by have := hx.2; omega
  have n8 : ∀ {a : Nat}, a < 256 → (BitVec.ofInt 8 (a : Int)).toNat = a := fun {a} h => by rw [BitVec.ofInt_natCast, BitVec.toNat_ofNat]; omega
  have e : Go.bits .xor .u8 (m : Int) (d : Int) = ((m ^^^ d : Nat) : Int) := by
    show IntKind.u8.wrap ((BitVec.ofInt 8 (m : Int) ^^^ BitVec.ofInt 8 (d : Int)).toNat : Int) = _
    rw [BitVec.toNat_xor, n8 hm, n8 hd, wrap_u8]
    have := Nat.xor_lt_two_pow (n := 8) hm hd
    omega
  have := Nat.xor_lt_two_pow (n := 8) hm hd
  rw [e]
  refine ⟨⟨by omega, by omega⟩, fun q => h ?_⟩
  have q : m ^^^ d = m ^^^ 0 := by rw [Nat.xor_zero]; omega
  have := xor_c q
  omega
end Go.Lift

set_option linter.unusedVariables false
set_option linter.unusedSimpArgs false
namespace Go.Lift
open Go
def lakeF (g : Option Gr) (c : Nat) : Int := if c = 1 then iw (2 * nArea g c) else nArea g c
theorem set_again {l : List Int} {k : Nat} (hl : l.length = k) (a : Int) (r : List Int) : (l ++ [a] ++ r).set (0 + k) (IntKind.i64.wrap (2 * (l ++ [a] ++ r).getD (0 + k) 0)) = l ++ [iw (2 * a)] ++ r := by
  rw [Nat.zero_add, List.append_assoc, List.append_assoc]
  show (l ++ a :: r).set k (IntKind.i64.wrap (2 * (l ++ a :: r).getD k 0)) = l ++ iw (2 * a) :: r
  rw [set_mid hl]
  have : (l ++ a :: r).getD k 0 = a := by
    rw [List.getD_eq_getElem?_getD, List.getElem?_append_right (by omega), hl, Nat.sub_self]; rfl
  rw [this]; rfl
theorem new1 : newR 1 = (some (netG 1), 0, ()) := by unfold newR; rw [if_neg (by decide)]
theorem lake1 : lakeR (some (netG 1)) = (([0, 0, 0, 0, 0, 0], [1431655765, 2863311530, 1431655765, 1431655765, 1431655765, 1431655765], [0, 0, 0, 0, 0, 0], [0, 0, 0, 0, 0, 0, 0, 0, 0, 0, 0, 0], 0, 0), ()) := by
  unfold lakeR
  rw [show lakeI (some (netG 1)) = ([0, 0, 0, 0, 0, 0], [1431655765, 2863311530, 1431655765, 1431655765, 1431655765, 1431655765], [0, 0, 0, 0, 0, 0], [0, 0, 0, 0, 0, 0, 0, 0, 0, 0, 0, 0], 0, 0) by decide +kernel]
def liveS : Se := ([0, 0, 0, 0, 0, 0], [1431655765, 2863311530, 1431655765, 1431655765, 1431655765, 1431655765], [0, 0, 0, 0, 0, 0], [0, 0, 0, 0, 0, 0, 0, 0, 0, 0, 0, 0], 0, 513)
theorem liveS_check : (checkI 1 liveS).2 = 0 := by decide +kernel
theorem liveS_ok : SeaOk liveS := by
  refine ⟨?_, ?_, ?_, ?_, ⟨by decide, by decide⟩, ⟨by decide, by decide⟩⟩
  · intro x hx
    have : x ∈ [0, 0, 0, 0, 0, 0] := hx
    simp at this; subst this; unfold W64; decide
  · intro x hx
    have : x ∈ [1431655765, 2863311530, 1431655765, 1431655765, 1431655765, 1431655765] := hx
    simp at this; rcases this with rfl | rfl | rfl <;> exact ⟨by decide, by decide⟩
  · intro x hx
    have : x ∈ [0, 0, 0, 0, 0, 0] := hx
    simp at this; subst this; exact ⟨by decide, by decide⟩
  · intro x hx
    have : x ∈ [0, 0, 0, 0, 0, 0, 0, 0, 0, 0, 0, 0] := hx
    simp at this; subst this; unfold W64; decide
theorem enR_good {n : Int} {s : Se} (h : (checkI n s).2 = 0) : enR n s = (saveI n s, 0, ()) := by
  have e1 : enI n s = (saveI n s, 0) := by unfold enI; rw [if_pos h]
  unfold enR
  rw [e1]
theorem live_len : (saveI 1 liveS).length = 269 := by rw [saveI_len, seaL_len]; rfl
theorem live_head : List.map byteOf (List.take ((7 : Int) - (0 : Int)).toNat (List.drop (Int.toNat (0 : Int)) (saveI 1 liveS))) = strBytes { data := #[(84 : UInt8), (65 : UInt8), (82 : UInt8), (78 : UInt8), (1 : UInt8), (1 : UInt8), (2 : UInt8)] } := by decide +kernel
theorem live_sum : sumR [97] = (12638187200555641996, ()) := by decide +kernel
theorem seas_refl (s : Se) : seasR s s = (true, ()) := by
  unfold seasR seasI
  rw [beq_self_eq_true]
end Go.Lift

set_option linter.unusedVariables false
set_option linter.unusedSimpArgs false
namespace Go.Lift
open Go
end Go.Lift

set_option linter.unusedVariables false
set_option linter.unusedSimpArgs false
namespace Go.Lift
def Fx_law25_SaveSum := fun (b c : List Int) (p x : Int) (post : Bool × Unit → Prop) => ∃ (h : True), ∀ (a : Bool × Unit), a = trueR0 → ∀ (a_1 : Bool), a_1 = a.fst → Br (!a_1) (post
  (Bool.false, ())) (∀ (a : Bool), a = decide ((↑b.length : Int) > (1048576 : Int)) → Br a (post (Bool.true, ())) (∀ (a : Bool), a = decide ((↑c.length : Int) > (1048576 : Int)) →
  Br a (post (Bool.true, ())) (∃ (h : BLs b), ∀ (a : Int × Unit), a = sumR b → HIs [] [] ∧ ∃ (I : Int × Int × Unit → Unit → Prop), ∃ (μ : Int × Int × Unit → Unit → Nat), I (a.fst,
  (0 : Int), ()) () ∧ ∀ (x_6 : Int × Int × Unit) (y : Unit), I x_6 y → ∀ (a : Bool), a = decide (x_6.snd.fst < (↑c.length : Int)) → Br a (∃ (h : (0 : Int) ≤ x_6.snd.fst ∧
  x_6.snd.fst < (↑c.length : Int)), HIs [] [] ∧ I (IntKind.u64.wrap (Go.bits Go.BinOp.xor IntKind.u64 x_6.fst (IntKind.u64.wrap (c.getD x_6.snd.fst.toNat (0 : Int))) *
  (1099511628211 : Int)), IntKind.i64.wrap (x_6.snd.fst + (1 : Int)), ()) () ∧ μ (IntKind.u64.wrap (Go.bits Go.BinOp.xor IntKind.u64 x_6.fst (IntKind.u64.wrap (c.getD
  x_6.snd.fst.toNat (0 : Int))) * (1099511628211 : Int)), IntKind.i64.wrap (x_6.snd.fst + (1 : Int)), ()) () < μ x_6 y) (∃ (h : (0 : Nat) = (0 : Nat) ∧ ((0 : Nat) + b.length) * (1 :
  Nat) ≤ (140737488355328 : Nat)), ∃ (h : (0 : Nat) + b.length = ([] ++ b).length ∧ (([] ++ b).length + c.length) * (1 : Nat) ≤ (140737488355328 : Nat)), ∃ (h : BLs (List.take (([]
  ++ b).length + c.length) (List.drop (0 : Nat) ([] ++ b ++ c)))), ∀ (a : Int × Unit), a = sumR (List.take (([] ++ b).length + c.length) (List.drop (0 : Nat) ([] ++ b ++ c))) → ∀
  (a_2 : Bool), a_2 = (a.fst != x_6.fst) → Br a_2 (post (Bool.false, ())) (∀ (a : Bool), a = decide (p < (0 : Int)) → Br a (post (Bool.true, ())) (∀ (a : Bool), a = decide (p ≥
  (↑(([] ++ b).length + c.length) : Int)) → Br a (post (Bool.true, ())) (∀ (a : Bool), a = (x == (0 : Int)) → Br a (post (Bool.true, ())) (∃ (h : (0 : Int) ≤ p ∧ p < (↑(([] ++
  b).length + c.length) : Int)), ∃ (h : (0 : Int) ≤ p ∧ p < (↑(([] ++ b).length + c.length) : Int)), ∃ (h : BLs (List.take (([] ++ b).length + c.length) (List.drop (0 : Nat) (([] ++
  b ++ c).set ((0 : Nat) + p.toNat) (Go.bits Go.BinOp.xor IntKind.u8 (([] ++ b ++ c).getD ((0 : Nat) + p.toNat) (0 : Int)) x))))), ∀ (a : Int × Unit), a = sumR (List.take (([] ++
  b).length + c.length) (List.drop (0 : Nat) (([] ++ b ++ c).set ((0 : Nat) + p.toNat) (Go.bits Go.BinOp.xor IntKind.u8 (([] ++ b ++ c).getD ((0 : Nat) + p.toNat) (0 : Int)) x)))) →
  ∀ (a_3 : Bool), a_3 = (a.fst != x_6.fst) → post (a_3, ())))))))))
theorem Lx_law25_SaveSum (b : List Int) (c : List Int) (p : Int) (x : Int) (h : WSums b c p x) (w : KS.wf [.slice (.int .u8), .slice (.int .u8), .int .i64, .int .u8] (b, c, p, x, ())) : Fx_law25_SaveSum  b c p x (fun r => r = trueR4 b c p x) := by
  refine ⟨trivial, ?_⟩
  rintro _ rfl
  rintro _ rfl
  refine Br.intro (fun e => absurd e (by decide)) fun _ => ?_
  obtain ⟨hb, hc, hp, hx⟩ := h
  rintro _ rfl
  refine Br.intro (fun _ => rfl) fun e1 => ?_
  have e1 := of_decide_eq_false e1
  rintro _ rfl
  refine Br.intro (fun _ => rfl) fun e2 => ?_
  have e2 := of_decide_eq_false e2
  refine ⟨hb, ?_⟩
  rintro _ rfl
  have hab : BLs (b ++ c) := hb.app hc
  have tk : ∀ l : List Int, l.length = b.length + c.length → List.take (([] ++ b).length + c.length) (List.drop 0 l) = l := fun l q => by
    rw [List.drop_zero, List.take_of_length_le]
    rw [List.nil_append]; omega
  refine forS (n := c.length) (F := fun k => ((c.take k).foldl sumStep (sumF b), (k : Int), ())) (ix := fun x => x.2.1) rfl rfl (fun k => rfl) (fun I μ k y hk hi hm => ?_) ?_
  · dsimp only at hi hm ⊢
    rw [Int.toNat_natCast, uB (getB hc k), wi_succ hk (by omega)]
    rw [take_step hk 0, List.foldl_append] at hi hm
    exact ⟨⟨by omega, by omega⟩, rfl, hi, hm⟩
  dsimp only
  rw [List.take_length]
  have hsum : c.foldl sumStep (sumF b) = sumF (b ++ c) := (sumF_app b c).symm
  rw [hsum]
  refine ⟨⟨rfl, by omega⟩, ⟨by rw [List.nil_append]; omega, by rw [List.nil_append]; omega⟩, ?_⟩
  rw [tk ([] ++ b ++ c) (by rw [List.nil_append, List.length_append])]
  refine ⟨hab, ?_⟩
  rintro _ rfl
  rw [List.nil_append, sumR_fst]
  rintro _ rfl
  refine Br.intro (fun e => by simp at e) fun _ => ?_
  rintro _ rfl
  refine Br.intro (fun _ => rfl) fun e3 => ?_
  have e3 := of_decide_eq_false e3
  rintro _ rfl
  refine Br.intro (fun _ => rfl) fun e4 => ?_
  have e4 := of_decide_eq_false e4
  rintro _ rfl
  refine Br.intro (fun _ => rfl) fun e5 => ?_
  have e5 : x ≠ 0 := by
    have e5 : (x == 0) = false := e5
    simpa using e5
  refine ⟨⟨by omega, by omega⟩, ⟨by omega, by omega⟩, ?_⟩
  have hpl : p.toNat < (b ++ c).length := by rw [List.length_append]; omega
  obtain ⟨g1, g2⟩ := xor_u8n (getB hab p.toNat) hx e5
  have tk2 : ∀ l : List Int, l.length = b.length + c.length → List.take (b.length + c.length) (List.drop 0 l) = l := fun l q => by
    rw [List.drop_zero, List.take_of_length_le]; omega
  rw [Nat.zero_add, tk2 _ (by rw [List.length_set, List.length_append])]
  refine ⟨fun y hy => ?_, ?_⟩
  · rcases List.mem_or_eq_of_mem_set hy with hy | rfl
    · exact hab y hy
    · exact g1
  rintro _ rfl
  rw [sumR_fst]
  rintro _ rfl
  have := sumF_turned hab hpl g1 g2
  rw [bne_iff_ne.2 this]; rfl
end Go.Lift
