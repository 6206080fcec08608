/- A part of the proof of TileSeasCard: an own lifter of code into plain terms, and plain laws. -/
import Derived.Test.YtomopcclgokehaaGreatDoorProg
import Derived.LaidMore
import Derived.MakeChecks
import Derived.Test.YtomopcclgokehaaGreatDoorRows
import Derived.ProofKit
import Derived.SevenTiedAt
import Derived.Test.YtomopcclgokehaaGreatDoorPtC
set_option linter.unusedVariables false
set_option linter.unusedSimpArgs false
set_option linter.unusedSectionVars false
/- Square roots: plain laws. Own work. -/
set_option linter.unusedVariables false
set_option linter.unusedSimpArgs false
namespace Go.Lift
open Ieee

theorem rootFrom_spec (n : Nat) : ∀ (todo r : Nat), r * r ≤ n → n < (r + 2 ^ todo) * (r + 2 ^ todo) → Datum.rootFrom n todo r * Datum.rootFrom n todo r ≤ n ∧ n < (Datum.rootFrom n todo r + 1) * (Datum.rootFrom n todo r + 1)
  | 0, r, h1, h2 => ⟨h1, h2⟩
  | todo + 1, r, h1, h2 => by
    have e : (1 <<< todo : Nat) = 2 ^ todo := by rw [Nat.shiftLeft_eq, Nat.one_mul]
    simp only [Datum.rootFrom, e]
    split
    · rename_i h
      refine rootFrom_spec n todo _ h ?_
      rw [Nat.add_assoc, show 2 ^ todo + 2 ^ todo = 2 ^ (todo + 1) by rw [Nat.pow_succ]; omega]
      exact h2
    · rename_i h
      exact rootFrom_spec n todo r h1 (by omega)
theorem isqrt_spec (n : Nat) : ∃ w, Datum.rootFrom n (n.log2 / 2 + 1) 0 = w ∧ w * w ≤ n ∧ n < (w + 1) * (w + 1) := by
  obtain ⟨h1, h2⟩ := rootFrom_spec n (n.log2 / 2 + 1) 0 (by simp) (by
    rw [Nat.zero_add, ← Nat.pow_add]
    by_cases h0 : n = 0
    · subst h0; exact Nat.two_pow_pos _
    · refine (Nat.log2_lt h0).1 ?_
      omega)
  exact ⟨_, rfl, h1, h2⟩
/-- The root of a number that is not below zero: what is rounded. -/
theorem root_num {x : Nat} (hx : NN x) (hf : rungOf x < infR) (h0 : rungOf x ≠ 0) : ∃ (k w : Nat) (q : Int), k ≤ 109 ∧ placeOf (rungOf x) - (k : Int) = 2 * q ∧
    w * w ≤ magOf (rungOf x) * 2 ^ k ∧ magOf (rungOf x) * 2 ^ k < (w + 1) * (w + 1) ∧ 2 ^ 108 ≤ magOf (rungOf x) * 2 ^ k ∧
    sqrtQ x = double.word false (rnd (2 * w + (w * w != magOf (rungOf x) * 2 ^ k).toNat) (q - 1)) := by
  have hm : magOf (rungOf x) ≠ 0 := by
    intro e
    have := rnd_exact hf
    rw [e, rnd_zero] at this
    exact h0 this.symm
  have hs : sgn x = false := by
    cases e : sgn x with
    | false => rfl
    | true => exact absurd (hx.sgn0 e) h0
  generalize hm0 : magOf (rungOf x) = m at *
  generalize hi0 : placeOf (rungOf x) = i at *
  have hr : double.read x = .number false m i := by rw [read_num hf, hs, hm0, hi0]
  generalize hmore : 2 * 54 - m.log2 = more
  generalize hk : more + ((i - (more : Int)) % 2).toNat = k
  obtain ⟨w, hw, w1, w2⟩ := isqrt_spec (m * 2 ^ k)
  have hroot : (double.read x).root (double.fractionBits + 2) = some (.number false (2 * w + (w * w != m * 2 ^ k).toNat) ((i - (k : Int)) / 2 - 1)) := by
    rw [hr]
    simp only [Datum.root]
    rw [if_neg hm, if_neg (by simp)]
    show some (Datum.number false _ _) = _
    have e1 : 2 * (double.fractionBits + 2) - m.log2 = more := hmore
    rw [e1, hk, Nat.shiftLeft_eq, hw]
  refine ⟨k, w, (i - (k : Int)) / 2, ?_, ?_, w1, w2, ?_, ?_⟩
  · omega
  · omega
  · have hl : 2 ^ m.log2 ≤ m := (Nat.le_log2 hm).1 (Nat.le_refl _)
    have : 2 ^ (m.log2 + k) ≤ m * 2 ^ k := by rw [Nat.pow_add]; exact Nat.mul_le_mul_right _ hl
    refine Nat.le_trans (Nat.pow_le_pow_right (by decide) ?_) this
    omega
  · unfold sqrtQ
    show (((double.read x).root (double.fractionBits + 2)).map double.write).getD QN = _
    rw [hroot]
    show double.write (.number false _ _) = _
    rw [write_num]

/-! ### To the nearest -/

/-- Above the middle it goes up. -/
theorem cutE_up {n d q : Nat} (h : (2 * q - 1) * 2 ^ d < 2 * n) (hq : 1 ≤ q) : q ≤ cutE n d := by
  have hp : 0 < 2 ^ d := Nat.two_pow_pos d
  rcases Nat.lt_or_ge n (q * 2 ^ d) with g | g
  · obtain ⟨p, rfl⟩ : ∃ p, q = p + 1 := ⟨q - 1, by omega⟩
    have h1 := Nat.div_add_mod n (2 ^ d)
    have h3 := Nat.mod_lt n hp
    unfold cutE
    generalize n % 2 ^ d = r at *
    generalize hD : 2 ^ d = D at *
    have e1 : (2 * (p + 1) - 1) * D = 2 * (p * D) + D := by
      rw [show 2 * (p + 1) - 1 = 2 * p + 1 by omega, Nat.add_mul, Nat.mul_assoc, Nat.one_mul]
    have e2 : (p + 1) * D = p * D + D := by rw [Nat.add_mul, Nat.one_mul]
    rw [e1] at h
    rw [e2] at g
    have hd : n / D = p := by
      refine Nat.div_eq_of_lt_le ?_ ?_
      · rw [← hD] at *
        have : p * 2 ^ d ≤ n := by omega
        exact this
      · rw [e2]; omega
    rw [hd] at h1 ⊢
    rw [Nat.mul_comm D p] at h1
    rw [if_pos (.inl (by omega))]
    exact Nat.le_refl _
  · exact le_cutE g
/-- Below the middle it goes down. -/
theorem cutE_dn {n d q : Nat} (h : 2 * n < (2 * q + 1) * 2 ^ d) : cutE n d ≤ q := by
  have hp : 0 < 2 ^ d := Nat.two_pow_pos d
  rcases Nat.lt_or_ge (q * 2 ^ d) n with g | g
  · have h1 := Nat.div_add_mod n (2 ^ d)
    have h3 := Nat.mod_lt n hp
    unfold cutE
    generalize hr : n % 2 ^ d = r at *
    generalize hD : 2 ^ d = D at *
    have e1 : (2 * q + 1) * D = 2 * (q * D) + D := by rw [Nat.add_mul, Nat.mul_assoc, Nat.one_mul]
    have e2 : (q + 1) * D = q * D + D := by rw [Nat.add_mul, Nat.one_mul]
    rw [e1] at h
    have hd : n / D = q := by
      refine Nat.div_eq_of_lt_le (by omega) ?_
      rw [e2]; omega
    rw [hd] at h1 ⊢
    rw [Nat.mul_comm D q] at h1
    rw [if_neg (by omega)]
    omega
  · exact cutE_le g
/-- A rung from its magnitude and place, where it is not among the least. -/
theorem rung_parts {r : Nat} (h : bin ≤ r) : (placeOf r + 1074).toNat * bin + magOf r = r ∧ bin ≤ magOf r ∧ magOf r < 2 * bin := by
  unfold placeOf magOf
  rw [if_neg (by omega), if_neg (by omega)]
  unfold bin at *
  omega
theorem mid_up {r V : Nat} {p : Int} (hr : bin ≤ r) (hf : r < infR) (hM : bin < magOf r) (hp : p < placeOf r) (h : (2 * magOf r - 1) * 2 ^ (placeOf r - 1 - p).toNat < V) : r ≤ rnd V p := by
  obtain ⟨e1, e2, e3⟩ := rung_parts hr
  have hE := placeOf_ge r
  generalize hE0 : placeOf r = E at *
  generalize hM0 : magOf r = M at *
  have hj : (E - p).toNat = (E - 1 - p).toNat + 1 := by omega
  generalize hj0 : (E - 1 - p).toNat = j at *
  have hX := rnd_mono' p (show (2 * M - 1) * 2 ^ j + 1 ≤ V by omega)
  refine Nat.le_trans ?_ hX
  have hpj := Nat.two_pow_pos j
  have hX0 : (2 * M - 1) * 2 ^ j + 1 ≠ 0 := by omega
  have l1 : 53 + j ≤ ((2 * M - 1) * 2 ^ j + 1).log2 := by
    refine (Nat.le_log2 hX0).2 ?_
    rw [Nat.pow_add]
    have : 2 ^ 53 * 2 ^ j ≤ (2 * M - 1) * 2 ^ j := Nat.mul_le_mul_right _ (by unfold bin at hM; omega)
    omega
  have l2 : ((2 * M - 1) * 2 ^ j + 1).log2 < 54 + j := by
    refine (Nat.log2_lt hX0).2 ?_
    rw [Nat.pow_add]
    have : (2 * M - 1 + 1) * 2 ^ j ≤ 2 ^ 54 * 2 ^ j := Nat.mul_le_mul_right _ (by unfold bin at e3; omega)
    rw [Nat.add_mul, Nat.one_mul] at this
    have h2 : (2 * M - 1 + 1) * 2 ^ j < 2 ^ 54 * 2 ^ j := Nat.mul_lt_mul_of_pos_right (by unfold bin at e3; omega) hpj
    rw [Nat.add_mul, Nat.one_mul] at h2
    omega
  have hL : lastP ((2 * M - 1) * 2 ^ j + 1) p = E := by unfold lastP; omega
  unfold rnd
  rw [if_neg hX0, hL, show (p - E).toNat = 0 by omega, Nat.pow_zero, Nat.mul_one, hj]
  have hc : M ≤ cutE ((2 * M - 1) * 2 ^ j + 1) (j + 1) := by
    refine cutE_up ?_ (by omega)
    rw [Nat.pow_succ]
    have : (2 * M - 1) * (2 ^ j * 2) = 2 * ((2 * M - 1) * 2 ^ j) := by rw [← Nat.mul_assoc]; omega
    omega
  refine Nat.le_min.2 ⟨?_, Nat.le_of_lt hf⟩
  exact Nat.le_trans (Nat.le_of_eq e1.symm) (Nat.add_le_add_left hc _)
/-- At a float or above it, it stays there or above. -/
theorem rnd_ge {r V : Nat} {p : Int} (hf : r < infR) (hp : p ≤ placeOf r) (h : magOf r * 2 ^ (placeOf r - p).toNat ≤ V) : r ≤ rnd V p := by
  have e := rnd_exact hf
  have := rnd_mono (m := magOf r) (p := placeOf r) (m' := V) (p' := p) (by
    unfold leV
    rw [show min (placeOf r) p = p by omega, Int.sub_self]
    simpa using h)
  omega

/-! ### Roots that are large enough -/

theorem sq_lt {a b : Nat} (h : a * a < b * b) : a < b := by
  rcases Nat.lt_or_ge a b with g | g
  · exact g
  · have := Nat.mul_le_mul g g; omega
theorem pow_two_mul (c j : Nat) : c * 2 ^ j * (c * 2 ^ j) = c * c * 2 ^ (2 * j) := by
  rw [show 2 * j = j + j by omega, Nat.pow_add, Nat.mul_mul_mul_comm]
theorem root_core {n w M a b : Nat} (w2 : n < (w + 1) * (w + 1)) (hlt : a < b) (H : (2 * M - 1) * (2 * M - 1) * 2 ^ (2 * b) < 4 * n * 2 ^ (2 * a)) : (2 * M - 1) * 2 ^ (b - a) < 2 * w + (w * w != n).toNat := by
  obtain ⟨j, rfl⟩ : ∃ j, b = a + j + 1 := ⟨b - a - 1, by omega⟩
  rw [show a + j + 1 - a = j + 1 by omega]
  generalize 2 * M - 1 = c at *
  have hp := Nat.two_pow_pos (2 * a)
  have e1 : c * c * 2 ^ (2 * (a + j + 1)) = (4 * (c * 2 ^ j * (c * 2 ^ j))) * 2 ^ (2 * a) := by
    rw [pow_two_mul, show 2 * (a + j + 1) = 2 * j + 2 * a + 2 by omega, Nat.pow_add, Nat.pow_add, show (2 : Nat) ^ 2 = 4 from rfl]
    rw [Nat.mul_comm 4 (c * c * 2 ^ (2 * j)), ← Nat.mul_assoc, ← Nat.mul_assoc, Nat.mul_right_comm _ 4 _]
  rw [e1] at H
  have h1 := Nat.lt_of_mul_lt_mul_right H
  have h2 : c * 2 ^ j * (c * 2 ^ j) < n := by omega
  have e2 : c * 2 ^ (j + 1) = 2 * (c * 2 ^ j) := by rw [Nat.pow_succ, ← Nat.mul_assoc, Nat.mul_comm _ 2]
  rw [e2]
  generalize c * 2 ^ j = t at *
  have h3 : t < w + 1 := sq_lt (by omega)
  rcases Nat.lt_or_ge t w with g | g
  · omega
  · have : t = w := by omega
    subst this
    have hb : (t * t != n) = true := by
      rw [bne_iff_ne]; omega
    rw [hb]
    show 2 * t < 2 * t + 1
    omega
theorem root_core' {n w M a b : Nat} (w2 : n < (w + 1) * (w + 1)) (hlt : a ≤ b) (H : M * M * 2 ^ (2 * b) ≤ n * 2 ^ (2 * a)) : M * 2 ^ (b - a) ≤ w := by
  obtain ⟨j, rfl⟩ : ∃ j, b = a + j := ⟨b - a, by omega⟩
  rw [show a + j - a = j by omega]
  have hp := Nat.two_pow_pos (2 * a)
  have e1 : M * M * 2 ^ (2 * (a + j)) = (M * 2 ^ j * (M * 2 ^ j)) * 2 ^ (2 * a) := by
    rw [pow_two_mul, show 2 * (a + j) = 2 * j + 2 * a by omega, Nat.pow_add, ← Nat.mul_assoc]
  rw [e1] at H
  have h1 := Nat.le_of_mul_le_mul_right H hp
  have h3 : M * 2 ^ j < w + 1 := sq_lt (by omega)
  omega
/-- 1074, not to be reckoned with. -/
def U74 : Nat := 1074
/-- What a root must reach so that the float r is reached. -/
def Reach (r v : Nat) : Prop := (bin < magOf r ∧ (2 * magOf r - 1) * (2 * magOf r - 1) * 2 ^ (2 * (placeOf r + 1074).toNat) < 4 * v) ∨ magOf r * magOf r * 2 ^ (2 * (placeOf r + 1074).toNat) ≤ v
theorem Reach.mono {r v v' : Nat} (h : Reach r v) (hv : v ≤ v') : Reach r v' := by
  rcases h with ⟨h1, h2⟩ | h
  · exact .inl ⟨h1, by omega⟩
  · exact .inr (by omega)
theorem sqrt_ge {s r : Nat} (hs : NN s) (hf : rungOf s < infR) (hr : bin ≤ r) (hrf : r < infR) (h0 : rungOf s ≠ 0) (H : Reach r (valR (rungOf s) * 2 ^ U74)) : r ≤ rungOf (sqrtQ s) := by
  obtain ⟨k, w, q, hk, hq, w1, w2, hn, e⟩ := root_num hs hf h0
  rw [e, (word_le (s := false) (rnd_le _ _)).2.2.1]
  have hi := placeOf_ge (rungOf s)
  have hE := placeOf_ge r
  obtain ⟨e1, e2, e3⟩ := rung_parts hr
  have hv : valR (rungOf s) * 2 ^ U74 = magOf (rungOf s) * 2 ^ k * 2 ^ (2 * (q + 1074).toNat) := by
    unfold valR
    rw [Nat.mul_assoc, Nat.mul_assoc, ← Nat.pow_add, ← Nat.pow_add]
    congr 2; unfold U74; omega
  rw [hv] at H
  generalize magOf (rungOf s) * 2 ^ k = n at *
  have hw : 2 ^ 54 ≤ w := by
    have : 2 ^ 54 * 2 ^ 54 < (w + 1) * (w + 1) := by
      rw [← Nat.pow_add]; exact Nat.lt_of_le_of_lt hn w2
    have := sq_lt this
    omega
  have hbin : bin = 2 ^ 52 := by decide
  have hM : magOf r < 2 ^ 53 := by rw [hbin] at e3; omega
  generalize hV : 2 * w + (w * w != n).toNat = V at *
  have hVw : 2 * w ≤ V := by omega
  rcases Int.lt_or_le (placeOf r) q with g | g
  · have e4 := rnd_exact hrf
    have := rnd_mono (m := magOf r) (p := placeOf r) (m' := V) (p' := q - 1) (by
      unfold leV
      rw [show min (placeOf r) (q - 1) = placeOf r by omega, Int.sub_self]
      have hp := Nat.two_pow_pos (q - 1 - placeOf r).toNat
      have : V * 1 ≤ V * 2 ^ (q - 1 - placeOf r).toNat := Nat.mul_le_mul_left _ hp
      simp only [Int.toNat_zero, Nat.pow_zero, Nat.mul_one] at this ⊢
      omega)
    omega
  · rcases H with ⟨hMb, H⟩ | H
    · refine mid_up hr hrf hMb (by omega) ?_
      rcases Int.lt_or_le q (placeOf r) with g2 | g2
      · have := root_core (a := (q + 1074).toNat) (b := (placeOf r + 1074).toNat) w2 (by omega) (by rw [Nat.mul_assoc 4]; exact H)
        rw [hV] at this
        rw [show (placeOf r - 1 - (q - 1)).toNat = (placeOf r + 1074).toNat - (q + 1074).toNat by omega]
        exact this
      · rw [show (placeOf r - 1 - (q - 1)).toNat = 0 by omega, Nat.pow_zero, Nat.mul_one]
        omega
    · refine rnd_ge hrf (by omega) ?_
      have := root_core' (a := (q + 1074).toNat) (b := (placeOf r + 1074).toNat) w2 (by omega) H
      rw [show (placeOf r - (q - 1)).toNat = (placeOf r + 1074).toNat - (q + 1074).toNat + 1 by omega, Nat.pow_succ, ← Nat.mul_assoc]
      omega

end Go.Lift

/- Squares, rounded. Own work. -/
set_option linter.unusedVariables false
set_option linter.unusedSimpArgs false
namespace Go.Lift
open Ieee

/-! ### Squares -/

theorem cutE_err (n d : Nat) : 2 * n ≤ (2 * cutE n d + 1) * 2 ^ d ∧ (1 ≤ cutE n d → (2 * cutE n d - 1) * 2 ^ d ≤ 2 * n) := by
  constructor
  · rcases Nat.lt_or_ge ((2 * cutE n d + 1) * 2 ^ d) (2 * n) with g | g
    · have := cutE_up (n := n) (d := d) (q := cutE n d + 1) (by rw [show 2 * (cutE n d + 1) - 1 = 2 * cutE n d + 1 by omega]; exact g) (by omega)
      omega
    · exact g
  · intro h
    rcases Nat.lt_or_ge (2 * n) ((2 * cutE n d - 1) * 2 ^ d) with g | g
    · have := cutE_dn (n := n) (d := d) (q := cutE n d - 1) (by rw [show 2 * (cutE n d - 1) + 1 = 2 * cutE n d - 1 by omega]; exact g)
      omega
    · exact g
/-- The square, rounded: how far from the square. -/
theorem square_parts {r : Nat} (hr : bin ≤ r) (hf : rnd (magOf r * magOf r) (placeOf r + placeOf r) < infR) (hb : bin ≤ rnd (magOf r * magOf r) (placeOf r + placeOf r)) :
    ∃ c d : Nat, valR (rnd (magOf r * magOf r) (placeOf r + placeOf r)) * 2 ^ U74 = c * 2 ^ d * 2 ^ (2 * (placeOf r + 1074).toNat) ∧ bin ≤ c ∧ 52 ≤ d ∧ c = cutE (magOf r * magOf r) d := by
  obtain ⟨e1, e2, e3⟩ := rung_parts hr
  have hE := placeOf_ge r
  generalize placeOf r = E at *
  generalize magOf r = M at *
  have hbin : bin = 2 ^ 52 := by decide
  have hm0 : M * M ≠ 0 := by
    have : 0 < M * M := Nat.mul_pos (by rw [hbin] at e2; omega) (by rw [hbin] at e2; omega)
    omega
  have hl1 : 104 ≤ (M * M).log2 := by
    refine (Nat.le_log2 hm0).2 ?_
    have := Nat.mul_le_mul e2 e2
    rw [hbin, ← Nat.pow_add] at this
    exact this
  generalize hLp : lastP (M * M) (E + E) = Lp
  have hLp1 : Lp = max (E + E + ((M * M).log2 : Int) - 52) (-1074) := hLp.symm
  generalize hd : (Lp - (E + E)).toNat = d
  have hd52 : 52 ≤ d := by omega
  have b1 : (M * M).log2 + 1 ≤ 53 + d := by omega
  have b2 : -1074 < Lp → 52 + d = (M * M).log2 := by intro g; omega
  have b3 : Lp ≤ -1074 → (Lp + 1074).toNat = 0 := by intro g; omega
  have b4 : (Lp + 1074).toNat + U74 = d + 2 * (E + 1074).toNat := by unfold U74; omega
  have b5 : (E + E - Lp).toNat = 0 := by omega
  have hρ : rnd (M * M) (E + E) = min ((Lp + 1074).toNat * bin + cutE (M * M) d) infR := by
    unfold rnd
    rw [if_neg hm0, hLp, hd, b5, Nat.pow_zero, Nat.mul_one]
  generalize hc : cutE (M * M) d = c at *
  have hρ2 : rnd (M * M) (E + E) = (Lp + 1074).toNat * bin + c := by
    rw [hρ] at hf ⊢
    rcases Nat.le_total ((Lp + 1074).toNat * bin + c) infR with g | g
    · exact Nat.min_eq_left g
    · rw [Nat.min_eq_right g] at hf; exact absurd hf (Nat.lt_irrefl _)
  have hcu : c ≤ 2 * bin := by
    rw [← hc]
    refine cutE_le ?_
    have h1 := (Nat.log2_lt hm0 (k := (M * M).log2 + 1)).1 (Nat.lt_succ_self _)
    have h2 : 2 ^ ((M * M).log2 + 1) ≤ 2 * bin * 2 ^ d := by
      rw [hbin, show 2 * 2 ^ 52 = 2 ^ 53 from rfl, ← Nat.pow_add]
      exact Nat.pow_le_pow_right (by decide) b1
    exact Nat.le_of_lt (Nat.lt_of_lt_of_le h1 h2)
  have hcl : bin ≤ c := by
    rcases Int.lt_or_le (-1074) Lp with g | g
    · rw [← hc]
      refine le_cutE ?_
      have h1 := (Nat.le_log2 hm0 (k := (M * M).log2)).1 (Nat.le_refl _)
      rw [hbin, ← Nat.pow_add, b2 g]
      exact h1
    · rw [hρ2, b3 g, Nat.zero_mul, Nat.zero_add] at hb
      exact hb
  refine ⟨c, d, ?_, hcl, hd52, hc.symm⟩
  have hv : valR (rnd (M * M) (E + E)) = c * 2 ^ (Lp + 1074).toNat := by
    rw [valR_hi (Nat.not_lt.2 hb), hρ2]
    clear hρ hρ2 hf hb b1 b2 b3 b4 b5 hd hLp1
    generalize (Lp + 1074).toNat = A
    rcases Nat.lt_or_ge c (2 * bin) with g | g
    · have h1 : (A * bin + c) / bin = A + 1 := by unfold bin at *; omega
      have h2 : (A * bin + c) % bin = c - bin := by unfold bin at *; omega
      rw [h1, h2, show bin + (c - bin) = c by omega, Nat.add_sub_cancel]
    · have h0 : c = 2 * bin := by omega
      have h1 : (A * bin + c) / bin = A + 2 := by unfold bin at *; omega
      have h2 : (A * bin + c) % bin = 0 := by unfold bin at *; omega
      rw [h1, h2, h0, Nat.add_zero, show A + 2 - 1 = A + 1 by omega, Nat.pow_succ, Nat.mul_comm 2 bin, Nat.mul_assoc, Nat.mul_comm 2]
  rw [hv, Nat.mul_assoc, Nat.mul_assoc, ← Nat.pow_add, ← Nat.pow_add]
  rw [b4]
theorem square_reach {r : Nat} (hr : bin ≤ r) (hf : rnd (magOf r * magOf r) (placeOf r + placeOf r) < infR) (hb : bin ≤ rnd (magOf r * magOf r) (placeOf r + placeOf r)) :
    Reach r (valR (rnd (magOf r * magOf r) (placeOf r + placeOf r)) * 2 ^ U74) := by
  obtain ⟨c, d, e, hc, hd, hcc⟩ := square_parts hr hf hb
  obtain ⟨e1, e2, e3⟩ := rung_parts hr
  rw [e]
  have hbin : bin = 2 ^ 52 := by decide
  have hp := Nat.two_pow_pos (2 * (placeOf r + 1074).toNat)
  unfold Reach
  generalize 2 ^ (2 * (placeOf r + 1074).toNat) = P at *
  generalize magOf r = M at *
  rcases Nat.lt_or_ge bin M with g | g
  · left
    refine ⟨g, ?_⟩
    rw [← Nat.mul_assoc]
    refine Nat.mul_lt_mul_of_pos_right ?_ hp
    obtain ⟨h1, h2⟩ := cutE_err (M * M) d
    rw [← hcc] at h1 h2
    have h2 := h2 (by rw [hbin] at hc; omega)
    generalize hD : 2 ^ d = D at *
    have hM2 : M * M ≤ M * (2 * bin - 1) := Nat.mul_le_mul_left _ (by omega)
    have hc1 : (2 * bin - 1) * D ≤ (2 * c - 1) * D := Nat.mul_le_mul_right _ (by omega)
    have hDM : D ≤ 2 * M := by
      have h3 : D * (2 * bin - 1) ≤ 2 * M * (2 * bin - 1) := by
        rw [Nat.mul_comm D, Nat.mul_assoc]; omega
      exact Nat.le_of_mul_le_mul_right h3 (by rw [hbin]; omega)
    have hd53 : d ≤ 53 := by
      rcases Nat.lt_or_ge 53 d with q | q
      · have : 2 ^ 54 ≤ 2 ^ d := Nat.pow_le_pow_right (by decide) q
        rw [hD] at this
        rw [hbin] at e3; omega
      · exact q
    have hD53 : D ≤ 2 ^ 53 := by rw [← hD]; exact Nat.pow_le_pow_right (by decide) hd53
    have hDM2 : D ≤ 2 * M - 2 := by rw [hbin] at g; omega
    have e4 : (2 * M - 1) * (2 * M - 1) + 4 * M = 4 * (M * M) + 1 := by
      obtain ⟨N, rfl⟩ : ∃ N, M = N + 1 := ⟨M - 1, by rw [hbin] at g; omega⟩
      rw [show 2 * (N + 1) - 1 = 2 * N + 1 by omega]
      simp only [Nat.add_mul, Nat.mul_add, Nat.mul_one, Nat.one_mul, Nat.mul_assoc, Nat.mul_left_comm N 2]
      omega
    have e5 : (2 * c + 1) * D = 2 * (c * D) + D := by rw [Nat.add_mul, Nat.mul_assoc, Nat.one_mul]
    rw [e5] at h1
    rw [← Nat.mul_assoc 4]
    have e6 : 4 * c * D = 4 * (c * D) := Nat.mul_assoc _ _ _
    rw [e6]
    omega
  · right
    have hM : M = bin := by omega
    refine Nat.mul_le_mul_right _ ?_
    rw [hM]
    exact Nat.mul_le_mul hc (by rw [hbin]; exact Nat.pow_le_pow_right (by decide) hd)
end Go.Lift

/- The root of a square is no less. Own work. -/
set_option linter.unusedVariables false
set_option linter.unusedSimpArgs false
namespace Go.Lift
open Ieee

theorem sq_word {x : Nat} (hf : rungOf x < infR) : mulQ x x = double.word false (rnd (magOf (rungOf x) * magOf (rungOf x)) (placeOf (rungOf x) + placeOf (rungOf x))) := by
  have h : (double.read x).product (double.read x) = some (.number false (magOf (rungOf x) * magOf (rungOf x)) (placeOf (rungOf x) + placeOf (rungOf x))) := by
    rw [read_num hf]
    simp only [Datum.product]
    rw [Bool.xor_self]
  unfold mulQ
  show (((double.read x).product (double.read x)).map double.write).getD QN = _
  rw [h]
  show double.write (.number false _ _) = _
  rw [write_num]
theorem sq_rung {x : Nat} (hf : rungOf x < infR) : rungOf (mulQ x x) = rnd (magOf (rungOf x) * magOf (rungOf x)) (placeOf (rungOf x) + placeOf (rungOf x)) := by
  rw [sq_word hf]; exact (word_le (s := false) (rnd_le _ _)).2.2.1
theorem sq_small {r : Nat} (h : r < bin) : rnd (magOf r * magOf r) (placeOf r + placeOf r) ≤ 1 := by
  have e1 : magOf r = r := by unfold magOf; rw [if_pos h]
  have e2 : placeOf r = -1074 := by unfold placeOf; rw [if_pos h]
  rw [e1, e2]
  have h1 := rnd_exact (r := 1) (by decide)
  rw [show magOf 1 = 1 by decide, show placeOf 1 = -1074 by decide] at h1
  have hb : bin = 2 ^ 52 := by decide
  have := rnd_mono (m := r * r) (p := -1074 + -1074) (m' := 1) (p' := -1074) (by
    unfold leV
    rw [show min (-1074 + -1074 : Int) (-1074) = -1074 + -1074 by decide, Int.sub_self, Int.toNat_zero, Nat.pow_zero, Nat.mul_one, Nat.one_mul]
    have h2 : r * r ≤ 2 ^ 104 := by
      have := Nat.mul_le_mul (Nat.le_of_lt h) (Nat.le_of_lt h)
      rw [hb, ← Nat.pow_add] at this
      exact this
    refine Nat.le_trans h2 (Nat.pow_le_pow_right (by decide) (by decide)))
  rw [h1] at this
  exact this
theorem sqrt_sq_ge {x s : Nat} (hf : rungOf x < infR) (hg : bin ≤ rungOf (mulQ x x)) (hg2 : rungOf (mulQ x x) < infR) (hs : NN s) (hsf : rungOf s < infR) (hle : rungOf (mulQ x x) ≤ rungOf s) : rungOf x ≤ rungOf (sqrtQ s) := by
  rw [sq_rung hf] at hg hg2 hle
  have hb : bin ≤ rungOf x := by
    rcases Nat.lt_or_ge (rungOf x) bin with g | g
    · have h1 := Nat.le_trans hg (sq_small g)
      exact absurd h1 (by decide)
    · exact g
  have h0 : rungOf s ≠ 0 := by
    intro e
    rw [e] at hle
    have h1 := Nat.le_trans hg hle
    exact absurd h1 (by decide)
  refine sqrt_ge hs hsf hb hf h0 ((square_reach hb hg2 hg).mono ?_)
  exact Nat.mul_le_mul_right _ (valR_le.2 hle)

/-- The root of what is above zero is above zero. -/
theorem sqrt_pos {s : Nat} (hs : NN s) (h0 : rungOf s ≠ 0) : isN (sqrtQ s) = false ∧ 1 ≤ rungOf (sqrtQ s) := by
  rcases rung_trich s with ⟨hf, _⟩ | ⟨hf, _⟩ | ⟨_, hn⟩
  · obtain ⟨k, w, q, hk, hq, w1, w2, hn, e⟩ := root_num hs hf h0
    have hi := placeOf_ge (rungOf s)
    generalize hV : 2 * w + (w * w != magOf (rungOf s) * 2 ^ k).toNat = V at *
    have hw : 1 ≤ w := by
      rcases Nat.eq_zero_or_pos w with g | g
      · subst g
        have : 2 ^ 108 < (0 + 1) * (0 + 1) := Nat.lt_of_le_of_lt hn w2
        exact absurd this (by decide)
      · exact g
    have hV1 : 1 ≤ V := by omega
    have h1 := rnd_exact (r := 1) (by decide)
    rw [show magOf 1 = 1 by decide, show placeOf 1 = -1074 by decide] at h1
    have h2 := rnd_mono (m := 1) (p := -1074) (m' := V) (p' := q - 1) (by
      unfold leV
      rw [show min (-1074) (q - 1) = -1074 by omega, Int.sub_self, Int.toNat_zero, Nat.pow_zero, Nat.mul_one]
      exact Nat.mul_pos hV1 (Nat.two_pow_pos _))
    rw [h1] at h2
    obtain ⟨g1, g2, g3, g4⟩ := word_le (s := false) (rnd_le V (q - 1))
    rw [e, g3]
    exact ⟨g1, h2⟩
  · have hsg : sgn s = false := by
      cases e : sgn s with
      | false => rfl
      | true => exact absurd (hs.sgn0 e) h0
    have e : sqrtQ s = double.word false infR := by
      unfold sqrtQ
      show (((double.read s).root (double.fractionBits + 2)).map double.write).getD QN = _
      rw [read_inf hf, hsg]
      show double.write (.infinity false) = _
      rw [write_inf]
    obtain ⟨g1, g2, g3, g4⟩ := word_le (s := false) (Nat.le_refl infR)
    rw [e, g3]
    exact ⟨g1, by decide⟩
  · rw [hs.2.1] at hn; cases hn
end Go.Lift

/- Roots that are small enough. Own work. -/
set_option linter.unusedVariables false
set_option linter.unusedSimpArgs false
namespace Go.Lift
open Ieee

theorem mid_dn {r V : Nat} {p : Int} (hr : bin ≤ r) (hf : r < infR) (hp : p < placeOf r) (h : V < (2 * magOf r + 1) * 2 ^ (placeOf r - 1 - p).toNat) : rnd V p ≤ r := by
  obtain ⟨e1, e2, e3⟩ := rung_parts hr
  have hE := placeOf_ge r
  generalize hE0 : placeOf r = E at *
  generalize hM0 : magOf r = M at *
  have hj : (E - p).toNat = (E - 1 - p).toNat + 1 := by omega
  generalize hj0 : (E - 1 - p).toNat = j at *
  have hpj := Nat.two_pow_pos j
  have hbin : bin = 2 ^ 52 := by decide
  have hX := rnd_mono' p (show V ≤ (2 * M + 1) * 2 ^ j - 1 by omega)
  refine Nat.le_trans hX ?_
  have lo : 2 ^ 53 * 2 ^ j + 2 ^ j ≤ (2 * M + 1) * 2 ^ j := by
    have : (2 ^ 53 + 1) * 2 ^ j ≤ (2 * M + 1) * 2 ^ j := Nat.mul_le_mul_right _ (by rw [hbin] at e2; omega)
    rw [Nat.add_mul, Nat.one_mul] at this
    exact this
  have up : (2 * M + 1) * 2 ^ j ≤ 2 ^ 54 * 2 ^ j := Nat.mul_le_mul_right _ (by rw [hbin] at e3; omega)
  have h53 : 0 < 2 ^ 53 * 2 ^ j := Nat.mul_pos (by decide) hpj
  generalize hX1 : (2 * M + 1) * 2 ^ j - 1 = X
  have hX0 : X ≠ 0 := by omega
  have l1 : 53 + j ≤ X.log2 := by
    refine (Nat.le_log2 hX0).2 ?_
    rw [Nat.pow_add]; omega
  have l2 : X.log2 < 54 + j := by
    refine (Nat.log2_lt hX0).2 ?_
    rw [Nat.pow_add]; omega
  have hL : lastP X p = E := by unfold lastP; omega
  unfold rnd
  rw [if_neg hX0, hL, show (p - E).toNat = 0 by omega, Nat.pow_zero, Nat.mul_one, hj]
  have hc : cutE X (j + 1) ≤ M := by
    refine cutE_dn ?_
    rw [Nat.pow_succ]
    have : (2 * M + 1) * (2 ^ j * 2) = 2 * ((2 * M + 1) * 2 ^ j) := by rw [← Nat.mul_assoc, Nat.mul_comm _ 2]
    omega
  refine Nat.le_trans (Nat.min_le_left _ _) ?_
  exact Nat.le_trans (Nat.add_le_add_left hc _) (Nat.le_of_eq e1)

theorem root_core_dn {n w M a b : Nat} (w1 : w * w ≤ n) (hlt : a < b) (H : 4 * n * 2 ^ (2 * a) < (2 * M + 1) * (2 * M + 1) * 2 ^ (2 * b)) : 2 * w + (w * w != n).toNat < (2 * M + 1) * 2 ^ (b - a) := by
  obtain ⟨j, rfl⟩ : ∃ j, b = a + j + 1 := ⟨b - a - 1, by omega⟩
  rw [show a + j + 1 - a = j + 1 by omega]
  generalize 2 * M + 1 = c at *
  have e1 : c * c * 2 ^ (2 * (a + j + 1)) = (4 * (c * 2 ^ j * (c * 2 ^ j))) * 2 ^ (2 * a) := by
    rw [pow_two_mul, show 2 * (a + j + 1) = 2 * j + 2 * a + 2 by omega, Nat.pow_add, Nat.pow_add, show (2 : Nat) ^ 2 = 4 from rfl]
    rw [Nat.mul_comm 4 (c * c * 2 ^ (2 * j)), ← Nat.mul_assoc, ← Nat.mul_assoc, Nat.mul_right_comm _ 4 _]
  rw [e1] at H
  have h1 := Nat.lt_of_mul_lt_mul_right H
  have h2 : n < c * 2 ^ j * (c * 2 ^ j) := by omega
  have e2 : c * 2 ^ (j + 1) = 2 * (c * 2 ^ j) := by rw [Nat.pow_succ, ← Nat.mul_assoc, Nat.mul_comm _ 2]
  rw [e2]
  generalize c * 2 ^ j = t at *
  have h3 : w < t := sq_lt (by omega)
  have : (w * w != n).toNat ≤ 1 := by cases (w * w != n) <;> decide
  omega
theorem sqrt_le {s r : Nat} (hs : NN s) (hf : rungOf s < infR) (hr : bin ≤ r) (hrf : r < infR) (h0 : rungOf s ≠ 0) (H : 4 * (valR (rungOf s) * 2 ^ U74) < (2 * magOf r + 1) * (2 * magOf r + 1) * 2 ^ (2 * (placeOf r + 1074).toNat)) : rungOf (sqrtQ s) ≤ r := by
  obtain ⟨k, w, q, hk, hq, w1, w2, hn, e⟩ := root_num hs hf h0
  rw [e, (word_le (s := false) (rnd_le _ _)).2.2.1]
  have hi := placeOf_ge (rungOf s)
  have hE := placeOf_ge r
  obtain ⟨e1, e2, e3⟩ := rung_parts hr
  have hv : valR (rungOf s) * 2 ^ U74 = magOf (rungOf s) * 2 ^ k * 2 ^ (2 * (q + 1074).toNat) := by
    unfold valR
    rw [Nat.mul_assoc, Nat.mul_assoc, ← Nat.pow_add, ← Nat.pow_add]
    congr 2; unfold U74; omega
  rw [hv] at H
  generalize magOf (rungOf s) * 2 ^ k = n at *
  have hbin : bin = 2 ^ 52 := by decide
  have hM : 2 * magOf r + 1 ≤ 2 ^ 54 := by rw [hbin] at e3; omega
  have hqE : q < placeOf r := by
    rcases Int.lt_or_le q (placeOf r) with g | g
    · exact g
    · exfalso
      have h1 : 2 ^ (2 * (placeOf r + 1074).toNat) ≤ 2 ^ (2 * (q + 1074).toNat) := Nat.pow_le_pow_right (by decide) (by omega)
      have h2 : (2 * magOf r + 1) * (2 * magOf r + 1) ≤ n := by
        have := Nat.mul_le_mul hM hM
        rw [← Nat.pow_add] at this
        exact Nat.le_trans this hn
      have h3 := Nat.mul_le_mul h2 h1
      have h4 : n * 2 ^ (2 * (q + 1074).toNat) ≤ 4 * (n * 2 ^ (2 * (q + 1074).toNat)) := Nat.le_mul_of_pos_left _ (by decide)
      exact absurd H (Nat.not_lt.2 (Nat.le_trans h3 h4))
  refine mid_dn hr hrf (by omega) ?_
  have := root_core_dn (a := (q + 1074).toNat) (b := (placeOf r + 1074).toNat) w1 (by omega) (by rw [Nat.mul_assoc 4]; exact H)
  rw [show (placeOf r - 1 - (q - 1)).toNat = (placeOf r + 1074).toNat - (q + 1074).toNat by omega]
  exact this

theorem square_dn {r : Nat} (hr : bin ≤ r) (hf : rnd (magOf r * magOf r) (placeOf r + placeOf r) < infR) (hb : bin ≤ rnd (magOf r * magOf r) (placeOf r + placeOf r)) :
    4 * (valR (rnd (magOf r * magOf r) (placeOf r + placeOf r)) * 2 ^ U74) < (2 * magOf r + 1) * (2 * magOf r + 1) * 2 ^ (2 * (placeOf r + 1074).toNat) := by
  obtain ⟨c, d, e, hc, hd, hcc⟩ := square_parts hr hf hb
  obtain ⟨e1, e2, e3⟩ := rung_parts hr
  rw [e]
  have hbin : bin = 2 ^ 52 := by decide
  have hp := Nat.two_pow_pos (2 * (placeOf r + 1074).toNat)
  generalize 2 ^ (2 * (placeOf r + 1074).toNat) = P at *
  clear e e1 hf hb
  generalize magOf r = M at *
  rw [← Nat.mul_assoc]
  refine Nat.mul_lt_mul_of_pos_right ?_ hp
  obtain ⟨h1, h2⟩ := cutE_err (M * M) d
  rw [← hcc] at h1 h2
  have h2 := h2 (by rw [hbin] at hc; omega)
  generalize hD : 2 ^ d = D at *
  have hM2 : M * M ≤ M * (2 * bin - 1) := Nat.mul_le_mul_left _ (by omega)
  have hc1 : (2 * bin - 1) * D ≤ (2 * c - 1) * D := Nat.mul_le_mul_right _ (by omega)
  have hDM : D ≤ 2 * M := by
    have h3 : D * (2 * bin - 1) ≤ 2 * M * (2 * bin - 1) := by
      rw [Nat.mul_comm D, Nat.mul_assoc]; omega
    exact Nat.le_of_mul_le_mul_right h3 (by rw [hbin]; omega)
  have e5 : (2 * c - 1) * D + D = 2 * (c * D) := by
    obtain ⟨g, rfl⟩ : ∃ g, c = g + 1 := ⟨c - 1, by rw [hbin] at hc; omega⟩
    rw [show 2 * (g + 1) - 1 = 2 * g + 1 by omega, Nat.add_mul, Nat.add_mul, Nat.mul_assoc, Nat.one_mul]
    omega
  have e4 : (2 * M + 1) * (2 * M + 1) = 4 * (M * M) + 4 * M + 1 := by
    simp only [Nat.add_mul, Nat.mul_add, Nat.mul_one, Nat.one_mul, Nat.mul_assoc, Nat.mul_left_comm M 2]
    omega
  rw [e4]
  have e6 : 4 * (c * D) = 2 * (2 * (c * D)) := by omega
  rw [e6, ← e5]
  clear hM2 hc1 hc hD hcc e6 e5 e4
  omega
/-- The root of the square is the number, signs apart. -/
theorem sqrt_sq {x : Nat} (hf : rungOf x < infR) (hg : bin ≤ rungOf (mulQ x x)) (hg2 : rungOf (mulQ x x) < infR) : rungOf (sqrtQ (mulQ x x)) = rungOf x := by
  have hn : NN (mulQ x x) := by
    rw [sq_word hf]
    obtain ⟨h1, h2, h3, h4⟩ := word_le (s := false) (rnd_le (magOf (rungOf x) * magOf (rungOf x)) (placeOf (rungOf x) + placeOf (rungOf x)))
    refine ⟨h2, h1, ?_⟩
    unfold keyOf'
    rw [h4, if_neg (by simp)]
    exact Int.natCast_nonneg _
  have lo := sqrt_sq_ge hf hg hg2 hn hg2 (Nat.le_refl _)
  have h0 : rungOf (mulQ x x) ≠ 0 := by
    intro e; rw [e] at hg; exact absurd hg (by decide)
  have hb : bin ≤ rungOf x := by
    rcases Nat.lt_or_ge (rungOf x) bin with g | g
    · rw [sq_rung hf] at hg
      exact absurd (Nat.le_trans hg (sq_small g)) (by decide)
    · exact g
  have up := sqrt_le hn hg2 hb hf h0 (by
    rw [sq_rung hf] at hg hg2 ⊢
    exact square_dn hb hg2 hg)
  exact Nat.le_antisymm up lo
end Go.Lift

/- What is divided by no less is at most one. Own work. -/
set_option linter.unusedVariables false
set_option linter.unusedSimpArgs false
namespace Go.Lift
open Ieee

def oneR : Nat := 4607182418800017408
theorem quot_core {D n e : Nat} (hn : 0 < n) (h : D ≤ n * 2 ^ e) : 2 * (D / n) + (D % n != 0).toNat ≤ 2 * 2 ^ e := by
  have h1 := Nat.div_add_mod D n
  have h2 := Nat.mod_lt D hn
  rcases Nat.lt_or_ge (D / n) (2 ^ e) with g | g
  · have : (D % n != 0).toNat ≤ 1 := by cases (D % n != 0) <;> decide
    omega
  · have h3 := Nat.mul_le_mul_left n g
    have h4 : D % n = 0 := by omega
    have h5 : D / n ≤ 2 ^ e := by
      refine Nat.div_le_of_le_mul ?_
      exact h
    rw [h4]
    show 2 * (D / n) + 0 ≤ _
    omega
theorem div_le_one {x y : Nat} (hx : rungOf x ≤ rungOf y) (hf : rungOf y < infR) (h0 : rungOf y ≠ 0) : isN (divQF x y) = false ∧ rungOf (divQF x y) ≤ oneR ∧ sgn (divQF x y) = (sgn x ^^ sgn y) := by
  have hxf : rungOf x < infR := Nat.lt_of_le_of_lt hx hf
  have hv := valR_le.2 hx
  unfold valR at hv
  have i1 := placeOf_ge (rungOf x)
  have j1 := placeOf_ge (rungOf y)
  have hn : magOf (rungOf y) ≠ 0 := by
    intro e
    have := rnd_exact hf
    rw [e, rnd_zero] at this
    exact h0 this.symm
  have hrx := read_num hxf
  have hry := read_num hf
  generalize magOf (rungOf x) = m at *
  generalize placeOf (rungOf x) = i at *
  generalize magOf (rungOf y) = n at *
  generalize placeOf (rungOf y) = j at *
  generalize hmore : 54 + n.log2 - m.log2 = more
  have hq : (double.read x).quotient (double.fractionBits + 2) (double.read y) = some (.number (sgn x ^^ sgn y) (2 * (m * 2 ^ more / n) + (m * 2 ^ more % n != 0).toNat) (i - j - (more : Int) - 1)) := by
    rw [hrx, hry]
    simp only [Datum.quotient]
    rw [if_neg hn]
    have e1 : double.fractionBits + 2 + n.log2 - m.log2 = more := hmore
    rw [e1, Nat.shiftLeft_eq]
  have e : divQF x y = double.word (sgn x ^^ sgn y) (rnd (2 * (m * 2 ^ more / n) + (m * 2 ^ more % n != 0).toNat) (i - j - (more : Int) - 1)) := by
    unfold divQF
    show (((double.read x).quotient (double.fractionBits + 2) (double.read y)).map double.write).getD QN = _
    rw [hq]
    show double.write (.number _ _ _) = _
    rw [write_num]
  obtain ⟨g1, g2, g3, g4⟩ := word_le (s := sgn x ^^ sgn y) (rnd_le (2 * (m * 2 ^ more / n) + (m * 2 ^ more % n != 0).toNat) (i - j - (more : Int) - 1))
  rw [e, g3]
  refine ⟨g1, ?_, g4⟩
  have h1 := rnd_exact (r := oneR) (by decide)
  rw [show magOf oneR = 2 ^ 52 by decide, show placeOf oneR = -52 by decide] at h1
  rw [← h1]
  by_cases hm : m = 0
  · subst hm
    rw [Nat.zero_mul, Nat.zero_div, Nat.zero_mod]
    show rnd 0 _ ≤ _
    rw [rnd_zero]; exact Nat.zero_le _
  have lm := (Nat.log2_lt hm (k := m.log2 + 1)).1 (Nat.lt_succ_self _)
  have lm2 := (Nat.le_log2 hm (k := m.log2)).1 (Nat.le_refl _)
  have ln := (Nat.log2_lt hn (k := n.log2 + 1)).1 (Nat.lt_succ_self _)
  -- the places stand far enough apart
  have he : i ≤ (more : Int) + j := by
    rcases Int.lt_or_le ((more : Int) + j) i with g | g
    · exfalso
      have k1 : 2 ^ (m.log2 + (i + 1074).toNat) ≤ m * 2 ^ (i + 1074).toNat := by rw [Nat.pow_add]; exact Nat.mul_le_mul_right _ lm2
      have k2 : n * 2 ^ (j + 1074).toNat < 2 ^ (n.log2 + 1 + (j + 1074).toNat) := by rw [Nat.pow_add]; exact Nat.mul_lt_mul_of_pos_right ln (Nat.two_pow_pos _)
      have k3 := Nat.lt_of_le_of_lt (Nat.le_trans k1 hv) k2
      have k4 := (Nat.pow_lt_pow_iff_right (a := 2) (by decide)).1 k3
      omega
    · exact g
  have hD : m * 2 ^ more ≤ n * 2 ^ ((more : Int) + j - i).toNat := by
    have hp := Nat.two_pow_pos (i + 1074).toNat
    refine Nat.le_of_mul_le_mul_right ?_ hp
    have k1 : m * 2 ^ more * 2 ^ (i + 1074).toNat = m * 2 ^ (i + 1074).toNat * 2 ^ more := Nat.mul_right_comm _ _ _
    have k2 : n * 2 ^ ((more : Int) + j - i).toNat * 2 ^ (i + 1074).toNat = n * 2 ^ (j + 1074).toNat * 2 ^ more := by
      rw [Nat.mul_assoc, Nat.mul_assoc, ← Nat.pow_add, ← Nat.pow_add]; congr 2; omega
    rw [k1, k2]
    exact Nat.mul_le_mul_right _ hv
  have hc := quot_core (Nat.pos_of_ne_zero hn) hD
  generalize 2 * (m * 2 ^ more / n) + (m * 2 ^ more % n != 0).toNat = V at *
  have s1 := rnd_mono' (i - j - (more : Int) - 1) hc
  refine Nat.le_trans s1 ?_
  refine Nat.le_of_eq ?_
  have s2 := rnd_scale 1 0 (((more : Int) + j - i).toNat + 1)
  have s3 := rnd_scale 1 0 52
  rw [Nat.one_mul, show (0 : Int) - ((((more : Int) + j - i).toNat + 1 : Nat) : Int) = i - j - (more : Int) - 1 by omega, Nat.pow_succ, Nat.mul_comm _ 2] at s2
  rw [Nat.one_mul] at s3
  rw [s2]
  exact s3.symm
end Go.Lift

/- Lengths and units: no less than the greatest part, parts at most one. Own work. -/
set_option linter.unusedVariables false
set_option linter.unusedSimpArgs false
namespace Go.Lift
open Ieee

def goodF (x : Nat) : Bool := fcmp .eql (double.order x 0) || decide (classF (mulQ x x) = 2)
def goodR (x : Nat) : Bool × Unit := r1 (goodF x)
def nil0 (x : Nat) : Bool := fcmp .eql (double.order (mulQ x x) 0)
def tinyF (a : Nat × Nat × Nat) : Bool := (nil0 a.1 && nil0 a.2.1) && nil0 a.2.2
def tinyR (a : Nat × Nat × Nat) : Bool × Unit := r1 (tinyF a)
def maxF (a b : Nat) : Nat := if isN a || isN b then QN else if ordF a b < 0 then b else a
def maxR (a b : Nat) : Nat × Unit := r1 (maxF a b)
def mone : Nat := 13830554455654793216
def partF (u x : Nat) : Bool := ((fcmp .geq (double.order u mone) && fcmp .leq (double.order u oneR)) && (fcmp .leq (double.order u 0) || fcmp .gtr (double.order x 0))) && (fcmp .geq (double.order u 0) || fcmp .lss (double.order x 0))
def partR (u x : Nat) : Bool × Unit := r1 (partF u x)

theorem order_quiet {w v : Nat} (h : quietF w = v) (y : Nat) : double.order w y = double.order v y := by
  subst h
  unfold quietF
  split
  · rename_i e
    rw [order_nan (.inl e), order_nan (.inl QN_N)]
  · rfl

/-- Not NaN, and its square in the normal range, or a nought. -/
def Gd (x : Nat) : Prop := (isN x = false ∧ rungOf x = 0) ∨ (rungOf x < infR ∧ bin ≤ rungOf (mulQ x x) ∧ rungOf (mulQ x x) < infR)
theorem mul_inf {x : Nat} (h : rungOf x = infR) : mulQ x x = double.word false infR := by
  unfold mulQ
  show (((double.read x).product (double.read x)).map double.write).getD QN = _
  rw [read_inf h]
  show double.write (.infinity (sgn x ^^ sgn x)) = _
  rw [write_inf]; simp
theorem gd_of {x : Nat} (h : goodF x = true) : Gd x := by
  unfold goodF at h
  rw [Bool.or_eq_true] at h
  rcases h with h | h
  · rw [eql_zero, Bool.and_eq_true] at h
    exact .inl ⟨by simpa using h.1, of_decide_eq_true h.2⟩
  · right
    have h := of_decide_eq_true h
    have hc : rungOf (mulQ x x) ≠ 0 ∧ bin ≤ rungOf (mulQ x x) ∧ rungOf (mulQ x x) < infR := by
      unfold classF at h
      split at h
      · cases h
      · split at h
        · cases h
        · split at h
          · exact ⟨by assumption, by omega, by assumption⟩
          · split at h <;> cases h
    refine ⟨?_, hc.2⟩
    rcases rung_trich x with ⟨e, _⟩ | ⟨e, _⟩ | ⟨_, e⟩
    · exact e
    · rw [mul_inf e] at hc
      have := (word_le (s := false) (Nat.le_refl infR)).2.2.1
      omega
    · rw [mulQ_nan (.inl e)] at hc
      have : infR < rungOf QN := by decide
      omega
theorem Gd.nn {x : Nat} (h : Gd x) : isN x = false := by
  rcases h with h | h
  · exact h.1
  · exact fin_nn h.1
theorem Gd.fin {x : Nat} (h : Gd x) : rungOf x < infR := by
  rcases h with h | h
  · rw [h.2]; decide
  · exact h.1
theorem sq_nn {x : Nat} (h : isN x = false) : NN (mulQ x x) := by
  rcases rung_trich x with ⟨e, _⟩ | ⟨e, _⟩ | ⟨_, e⟩
  · rw [sq_word e]
    obtain ⟨k1, k2, k3⟩ := key_word false (rnd_le (magOf (rungOf x) * magOf (rungOf x)) (placeOf (rungOf x) + placeOf (rungOf x))) (by simp)
    exact ⟨k1, k2, by omega⟩
  · rw [mul_inf e]
    obtain ⟨k1, k2, k3⟩ := key_word false (Nat.le_refl infR) (by simp)
    exact ⟨k1, k2, by omega⟩
  · rw [h] at e; cases e

/-- The sum of the squares. -/
def sq3 (a : Nat × Nat × Nat) : Nat := three (mulQ a.1 a.1) (mulQ a.2.1 a.2.1) (mulQ a.2.2 a.2.2)
theorem length_sq (a : Nat × Nat × Nat) : lengthQ a = canonF (sqrtQ (sq3 a)) := rfl
theorem NN.rung_le {x y : Nat} (hx : NN x) (hy : NN y) (h : keyOf' x ≤ keyOf' y) : rungOf x ≤ rungOf y := by
  rw [hx.key, hy.key] at h; omega
theorem sq3_ge {a : Nat × Nat × Nat} (hx : isN a.1 = false) (hy : isN a.2.1 = false) (hz : isN a.2.2 = false) : NN (sq3 a) ∧ rungOf (mulQ a.1 a.1) ≤ rungOf (sq3 a) ∧ rungOf (mulQ a.2.1 a.2.1) ≤ rungOf (sq3 a) ∧ rungOf (mulQ a.2.2 a.2.2) ≤ rungOf (sq3 a) := by
  obtain ⟨h1, h2, h3, h4⟩ := three_ge (sq_nn hx) (sq_nn hy) (sq_nn hz)
  exact ⟨h1, (sq_nn hx).rung_le h1 h2, (sq_nn hy).rung_le h1 h3, (sq_nn hz).rung_le h1 h4⟩
theorem NN.pos {x : Nat} (h : NN x) (h0 : rungOf x ≠ 0) : sgn x = false := by
  cases e : sgn x with
  | false => rfl
  | true => exact absurd (h.sgn0 e) h0
theorem sqrt_inf {s : Nat} (h : NN s) (e : rungOf s = infR) : sqrtQ s = double.word false infR := by
  have hs := h.pos (by rw [e]; decide)
  unfold sqrtQ
  show (((double.read s).root _).map double.write).getD QN = _
  rw [read_inf e, hs]
  show double.write (.infinity false) = _
  rw [write_inf]
theorem sqrt_0 {s : Nat} (h : NN s) (e : rungOf s = 0) : isN (sqrtQ s) = false ∧ rungOf (sqrtQ s) = 0 := by
  unfold sqrtQ
  show isN ((((double.read s).root _).map double.write).getD QN) = false ∧ rungOf ((((double.read s).root _).map double.write).getD QN) = 0
  rw [read_num (by rw [e]; decide), e]
  have hm : magOf 0 = 0 := by decide
  have hp : placeOf 0 = -1074 := by decide
  rw [hm, hp]
  simp only [Datum.root]
  simp only [if_true, Option.map_some, Option.getD_some, write_num, rnd_zero]
  obtain ⟨k1, k2, k3, k4⟩ := word_le (s := sgn s) (Nat.zero_le infR)
  exact ⟨k1, k3⟩
theorem canon_rung {x : Nat} (h : isN x = false) : rungOf (canonF x) = rungOf x ∧ (rungOf x ≠ 0 → canonF x = x) := by
  unfold canonF
  rw [h, if_neg (by simp)]
  split
  · rename_i e; rw [e]; exact ⟨by decide, fun f => absurd rfl f⟩
  · exact ⟨rfl, fun _ => rfl⟩

/-- The root of the sum of squares: is no NaN, reaches each part whose square is normal, is a nought just of noughts. -/
theorem length_ge {a : Nat × Nat × Nat} (hx : isN a.1 = false) (hy : isN a.2.1 = false) (hz : isN a.2.2 = false) :
    isN (lengthQ a) = false ∧ (rungOf (lengthQ a) = 0 ↔ rungOf (sq3 a) = 0) ∧ ∀ x, rungOf x < infR → bin ≤ rungOf (mulQ x x) → rungOf (mulQ x x) ≤ rungOf (sq3 a) → rungOf x ≤ rungOf (lengthQ a) := by
  obtain ⟨h1, _⟩ := sq3_ge hx hy hz
  rw [length_sq]
  rcases Nat.lt_or_ge (rungOf (sq3 a)) infR with g | g
  · by_cases z : rungOf (sq3 a) = 0
    · obtain ⟨k1, k2⟩ := sqrt_0 h1 z
      rw [isN_canonF, (canon_rung k1).1]
      refine ⟨k1, ⟨fun _ => z, fun _ => k2⟩, fun x _ hb hl => ?_⟩
      have : 0 < bin := by decide
      omega
    · obtain ⟨k1, k2⟩ := sqrt_pos h1 z
      rw [isN_canonF, (canon_rung k1).1]
      refine ⟨k1, ⟨fun e => by omega, fun e => absurd e z⟩, fun x hf hb hl => ?_⟩
      exact sqrt_sq_ge hf hb (by omega) h1 g hl
  · have e : rungOf (sq3 a) = infR := Nat.le_antisymm h1.le g
    rw [sqrt_inf h1 e]
    obtain ⟨k1, k2, k3, k4⟩ := word_le (s := false) (Nat.le_refl infR)
    rw [isN_canonF, (canon_rung k1).1, k3, e]
    refine ⟨k1, Iff.rfl, fun x hf _ _ => Nat.le_of_lt hf⟩

theorem Gd.sq0 {x : Nat} (h : Gd x) (h0 : rungOf x = 0) : Z (mulQ x x) := by
  have hn := sq_nn h.nn
  refine ⟨hn.1, hn.2.1, ?_⟩
  rw [sq_rung (by rw [h0]; decide), h0]; decide
theorem Gd.big {x : Nat} (h : Gd x) (h0 : rungOf x ≠ 0) : rungOf x < infR ∧ bin ≤ rungOf (mulQ x x) ∧ rungOf (mulQ x x) < infR := by
  rcases h with h | h
  · exact absurd h.2 h0
  · exact h
theorem three_Z {a b c : Nat} (ha : Z a) (hb : Z b) (hc : Z c) : rungOf (three a b c) = 0 := by
  obtain ⟨x, y, z, e, m1, m2, m3, m4⟩ := sort3_perm a b c
  have nn : ∀ w ∈ [x, y, z], Z w := by
    intro w hw
    rcases m4 w hw with rfl | rfl | rfl <;> assumption
  unfold three
  rw [e, rowQ3_eq, quiet_nn (nn x (by simp)).2.1]
  exact (add_ZZ (add_ZZ (nn x (by simp)) (nn y (by simp))) (nn z (by simp))).2.2
theorem length_good {a : Nat × Nat × Nat} (hx : Gd a.1) (hy : Gd a.2.1) (hz : Gd a.2.2) :
    isN (lengthQ a) = false ∧ rungOf a.1 ≤ rungOf (lengthQ a) ∧ rungOf a.2.1 ≤ rungOf (lengthQ a) ∧ rungOf a.2.2 ≤ rungOf (lengthQ a) ∧
    (rungOf (lengthQ a) = 0 ↔ rungOf a.1 = 0 ∧ rungOf a.2.1 = 0 ∧ rungOf a.2.2 = 0) := by
  obtain ⟨g1, g2, g3⟩ := length_ge hx.nn hy.nn hz.nn
  obtain ⟨_, s1, s2, s3⟩ := sq3_ge hx.nn hy.nn hz.nn
  have one : ∀ x, Gd x → rungOf (mulQ x x) ≤ rungOf (sq3 a) → rungOf x ≤ rungOf (lengthQ a) := by
    intro x h hs
    by_cases h0 : rungOf x = 0
    · omega
    · obtain ⟨k1, k2, k3⟩ := h.big h0
      exact g3 x k1 k2 hs
  have a1 := one _ hx s1
  have a2 := one _ hy s2
  have a3 := one _ hz s3
  refine ⟨g1, a1, a2, a3, ⟨fun e => by omega, fun ⟨e1, e2, e3⟩ => g2.2 ?_⟩⟩
  exact three_Z (hx.sq0 e1) (hy.sq0 e2) (hz.sq0 e3)

/-- Where a length is neither NaN nor above nothing, all squares are noughts. -/
theorem length_tiny {a : Nat × Nat × Nat} (hn : isN (lengthQ a) = false) (h0 : rungOf (lengthQ a) = 0) : tinyF a = true := by
  have hs : isN (sq3 a) = false := by
    cases e : isN (sq3 a) with
    | false => rfl
    | true =>
      rw [length_sq, isN_canonF, sqrtQ_nan e] at hn
      exact absurd QN_N (by rw [hn]; simp)
  have nn : isN (mulQ a.1 a.1) = false ∧ isN (mulQ a.2.1 a.2.1) = false ∧ isN (mulQ a.2.2 a.2.2) = false := by
    refine ⟨?_, ?_, ?_⟩
    all_goals
      rw [← Bool.not_eq_true]
      intro e
      have : sq3 a = QN := three_nan (by simp [e])
      rw [this] at hs
      exact absurd QN_N (by rw [hs]; simp)
  have one : ∀ x, isN (mulQ x x) = false → isN x = false := by
    intro x h
    cases e : isN x with
    | false => rfl
    | true => rw [mulQ_nan (.inl e)] at h; exact absurd QN_N (by rw [h]; simp)
  obtain ⟨n1, n2, n3⟩ := nn
  obtain ⟨g1, g2, g3⟩ := length_ge (one _ n1) (one _ n2) (one _ n3)
  obtain ⟨_, s1, s2, s3⟩ := sq3_ge (one _ n1) (one _ n2) (one _ n3)
  have z := g2.1 h0
  have q : ∀ x, isN (mulQ x x) = false → rungOf (mulQ x x) ≤ rungOf (sq3 a) → nil0 x = true := by
    intro x h hl
    unfold nil0
    rw [eql_zero, h, decide_eq_true (by omega)]; rfl
  unfold tinyF
  rw [q _ n1 s1, q _ n2 s2, q _ n3 s3]; rfl

/-- The greater of a float and its opposite. -/
theorem max_neg {x : Nat} (hw : W64 x) (h : isN x = false) : maxF x (negF x) = rungOf x := by
  have hr := rung_lt x
  have w1 := rung_lo hr
  unfold maxF
  rw [isN_negF hw, h, if_neg (by simp)]
  have hq : rungOf (negF x) = rungOf x := (rung_negF hw).1
  cases e : sgn x with
  | true =>
    have e' : sgn (negF x) = false := by rw [sgn_negF hw, e]; rfl
    rw [ord_np e e' hw (negF_w hw), if_pos (by decide), ← hq]
    exact (rung_lo (by have := sgn_iff (negF_w hw); rw [e'] at this; simp at this; exact this)).symm
  | false =>
    have e' : sgn (negF x) = true := by rw [sgn_negF hw, e]; rfl
    rw [ord_pn e e' hw (negF_w hw), if_neg (by decide)]
    exact (rung_lo (by have := sgn_iff hw; rw [e] at this; simp at this; exact this)).symm
theorem small_sgn {r : Nat} (h : r < 9223372036854775808) : sgn r = false ∧ rungOf r = r ∧ W64 r := by
  have hw : W64 r := by unfold W64; omega
  refine ⟨?_, rung_lo h, hw⟩
  rw [sgn_dec hw]; simp; omega
theorem max_pos {r s : Nat} (hr : r ≤ infR) (hs : s ≤ infR) : maxF r s = max r s := by
  have b : infR < 9223372036854775808 := by decide
  obtain ⟨a1, a2, a3⟩ := small_sgn (r := r) (by omega)
  obtain ⟨b1, b2, b3⟩ := small_sgn (r := s) (by omega)
  unfold maxF
  have n1 : isN r = false := by unfold isN; rw [a2]; simp; omega
  have n2 : isN s = false := by unfold isN; rw [b2]; simp; omega
  rw [n1, n2, if_neg (by simp)]
  rcases Nat.lt_or_ge r s with g | g
  · rw [ord_pp a1 b1 (by omega), if_pos (by decide)]; omega
  · rcases Nat.eq_or_lt_of_le g with g | g
    · rw [ord_same g.symm, if_neg (by decide)]; omega
    · rw [ord_pp' a1 b1 (by omega) (by omega), if_neg (by decide)]; omega
/-- The greatest part. -/
def most3 (a : Nat × Nat × Nat) : Nat := max (max (rungOf a.1) (rungOf a.2.1)) (rungOf a.2.2)
theorem max_3 {a : Nat × Nat × Nat} (h : WV a) (hx : isN a.1 = false) (hy : isN a.2.1 = false) (hz : isN a.2.2 = false) :
    maxF (maxF (maxF a.1 (negF a.1)) (maxF a.2.1 (negF a.2.1))) (maxF a.2.2 (negF a.2.2)) = most3 a := by
  have le : ∀ x, isN x = false → rungOf x ≤ infR := fun x e => by unfold isN at e; simpa using e
  rw [max_neg h.1 hx, max_neg h.2.1 hy, max_neg h.2.2 hz, max_pos (le _ hx) (le _ hy), max_pos (by have := le _ hx; have := le _ hy; omega) (le _ hz)]
  rfl
theorem most_le {a : Nat × Nat × Nat} (hx : isN a.1 = false) (hy : isN a.2.1 = false) (hz : isN a.2.2 = false) : most3 a ≤ infR := by
  have le : ∀ x, isN x = false → rungOf x ≤ infR := fun x e => by unfold isN at e; simpa using e
  have := le _ hx; have := le _ hy; have := le _ hz
  unfold most3; omega

/-- A vector along the first axis alone. -/
theorem length_axis {x : Nat} (hx : Gd x) (h0 : rungOf x ≠ 0) : lengthQ (x, 0, 0) = rungOf x := by
  obtain ⟨k1, k2, k3⟩ := hx.big h0
  have e0 : mulQ 0 0 = 0 := by decide +kernel
  have hn := sq_nn hx.nn
  have hq := three_00 hn.1 k3
  have e : sq3 (x, 0, 0) = mulQ x x := by
    show three (mulQ x x) (mulQ 0 0) (mulQ 0 0) = _
    rw [e0]
    exact hq.2.2 (by have : 0 < bin := by decide
                     omega)
  rw [length_sq, e]
  have hr := sqrt_sq k1 k2 k3
  have hp := sqrt_pos hn (by have : 0 < bin := by decide
                             omega)
  rw [(canon_rung hp.1).2 (by omega)]
  have hs : sgn (sqrtQ (mulQ x x)) = false := by
    cases f : sgn (sqrtQ (mulQ x x)) with
    | false => rfl
    | true => have := sqrt_sgn _ f; omega
  have hw := sqrtQ_w (mulQ x x)
  rw [← hr]
  exact (rung_lo (by have := sgn_iff hw; rw [hs] at this; simp at this; exact this)).symm

theorem key_le_one {u : Nat} (hn : isN u = false) (h : rungOf u ≤ oneR) : fcmp .geq (double.order u mone) = true ∧ fcmp .leq (double.order u oneR) = true := by
  have m1 : keyOf' mone = -(oneR : Int) := by decide
  have m2 : keyOf' oneR = oneR := by decide
  have n1 : isN mone = false := by decide
  have n2 : isN oneR = false := by decide
  have hk : -(oneR : Int) ≤ keyOf' u ∧ keyOf' u ≤ oneR := by unfold keyOf'; split <;> omega
  refine ⟨geq_of hn n1 (by rw [m1]; exact hk.1), ?_⟩
  rw [order_eq hn n2, m2]
  rcases Int.lt_trichotomy (keyOf' u) oneR with g | g | g
  · rw [Std.compare_eq_lt.2 g]; rfl
  · rw [g, Std.compare_self]; rfl
  · omega
theorem part_ok {u x : Nat} (hn : isN u = false) (h : rungOf u ≤ oneR) (hx : isN x = false) (hs : rungOf u ≠ 0 → sgn u = sgn x ∧ rungOf x ≠ 0) : partF u x = true := by
  obtain ⟨h1, h2⟩ := key_le_one hn h
  unfold partF
  rw [h1, h2]
  have n0 : isN 0 = false := by decide
  have k0 : keyOf' 0 = 0 := by decide
  rw [order_eq hn n0, order_eq hx n0, k0]
  by_cases hz : rungOf u = 0
  · rw [keyOf_zero.2 hz]; rfl
  · obtain ⟨a, b⟩ := hs hz
    have k1 : keyOf' u = if sgn x then -(rungOf u : Int) else rungOf u := by unfold keyOf'; rw [a]
    have k2 : keyOf' x = if sgn x then -(rungOf x : Int) else rungOf x := rfl
    rw [k1, k2]
    cases sgn x with
    | true =>
      rw [if_pos rfl, if_pos rfl, Std.compare_eq_lt.2 (show -(rungOf u : Int) < 0 by omega), Std.compare_eq_lt.2 (show -(rungOf x : Int) < 0 by omega)]; rfl
    | false =>
      rw [if_neg (by simp), if_neg (by simp), Std.compare_eq_gt.2 (show (rungOf u : Int) > 0 by omega), Std.compare_eq_gt.2 (show (rungOf x : Int) > 0 by omega)]; rfl
/-- A unit's part. -/
theorem unit_part {x l : Nat} (hx : isN x = false) (hl : rungOf x ≤ rungOf l) (hs : sgn l = false) (hf : rungOf l < infR) (h0 : rungOf l ≠ 0) : partF (canonF (divQF x l)) x = true := by
  obtain ⟨d1, d2, d3⟩ := div_le_one hl hf h0
  have c := canon_rung d1
  refine part_ok (by rw [isN_canonF]; exact d1) (by rw [c.1]; exact d2) hx ?_
  intro h
  rw [c.1] at h
  rw [c.2 h, d3, hs]
  refine ⟨by simp, ?_⟩
  intro e
  apply h
  -- a nought over something is a nought
  have e1 : rungOf x < infR := by rw [e]; decide
  unfold divQF
  show rungOf ((((double.read x).quotient _ (double.read l)).map double.write).getD QN) = 0
  rw [read_num e1, read_num hf, e, show magOf 0 = 0 by decide]
  simp only [Datum.quotient]
  have hm : magOf (rungOf l) ≠ 0 := by
    intro e
    have := rnd_exact hf
    rw [e, rnd_zero] at this
    exact h0 this.symm
  rw [if_neg hm]
  simp [write_num, Nat.zero_shiftLeft, rnd_zero]
  exact (word_le (Nat.zero_le infR)).2.2.1
end Go.Lift

/- Tiles, cells of the cube, areas: what is answered. Own work. -/
set_option linter.unusedVariables false
set_option linter.unusedSimpArgs false
namespace Go.Lift
def hintH : List (Nat × LH) → Nat → Option LH := hintN
def kVec : K := .pair (.flt .f64) (.pair (.flt .f64) (.flt .f64))
def kTile : K := .pair (.int .i64) (.pair (.int .u32) (.pair (.int .u32) (.slice (.int .u32))))
def kSea : K := .pair (.slice (.flt .f64)) (.pair (.slice (.int .i64)) (.pair (.slice (.int .i64)) (.pair (.slice (.flt .f64)) (.pair (.int .i64) (.int .i64)))))
abbrev Ti := Int × Int × Int × List Int
abbrev Se := List Nat × List Int × List Int × List Nat × Int × Int

def framesL : List (List (List Int)) := [[[1, 0, 0], [0, 1, 0], [0, 0, 1]], [[0, 1, 0], [-1, 0, 0], [0, 0, 1]], [[-1, 0, 0], [0, -1, 0], [0, 0, 1]], [[0, -1, 0], [1, 0, 0], [0, 0, 1]], [[0, 0, 1], [0, 1, 0], [-1, 0, 0]], [[0, 0, -1], [0, 1, 0], [1, 0, 0]]]

def U32 (n : Int) : Prop := 0 ≤ n ∧ n < 4294967296
def U8 (n : Int) : Prop := 0 ≤ n ∧ n < 256

/- cells -/
def goodC (n : Int) : Bool := decide (1 ≤ n) && decide (n ≤ 32)
def goodCR (n : Int) : Bool × Unit := r1 (goodC n)
def cellsI (n : Int) : Int := if goodC n then 6 * n * n else 0
def cellsR (n : Int) : Int × Unit := r1 (cellsI n)
def placeOk (n c : Int) : Bool := decide (0 ≤ c) && decide (c < cellsI n)
def placeR4 (n c : Int) : Int × Int × Int × Bool × Unit := if placeOk n c then (c / (n * n), c % n, c / n % n, true, ()) else (0, 0, 0, false, ())

/- numbers -/
def ofI (n : Int) : Nat := FloatKind.f64.nearest n
def ofIR (n : Int) : Nat × Unit := r1 (ofI n)
def depthQ (w a : Int) : Nat := if w < 1 ∨ a < 1 then 0 else divQF (ofI w) (ofI a)
def depthR (w a : Int) : Nat × Unit := r1 (depthQ w a)
def II (a b : Int) : Prop := I64 a ∧ I64 b
def bits32R (b : Nat) : Int × Unit := r1 (b : Int)
def to32 (x : Nat) : Int := if isN x then 2143289344 else (if sgn x then 2147483648 else 0) + (if 5183643170835005440 ≤ rungOf x then 2139095040 else (Ieee.single.write (Ieee.double.read (rungOf x)) : Nat))
def to32R (x : Nat) : Int × Unit := r1 (to32 x)
def floorF (x : Nat) : Nat := Ieee.double.write ((Ieee.double.read x).integral .down)
def floorR (x : Nat) : Nat × Unit := r1 (floorF x)
def WNum (x : Nat) : Prop := W64 x ∧ isN x = false
def halfR : Nat := 4602678819172646912
def wholeI (x : Nat) : Int := ((Ieee.double.read x).toInt .zero).getD 0
def nearI (x : Nat) : Int := if fcmp .gtr (Ieee.double.order (subQ x (floorF x)) halfR) || (fcmp .eql (Ieee.double.order (subQ x (floorF x)) halfR) && (wholeI (floorF x) % 2 == 1)) then wholeI (floorF x) + 1 else wholeI (floorF x)
def nearR (x : Nat) : Int × Unit := r1 (nearI x)
def two63 : Nat := 4890909195324358656
def WNear (x : Nat) : Prop := x < two63
def roundI (x : Nat) : Int × Bool := if rungOf x < two63 then ((if sgn x && decide (rungOf x ≠ 0) then IntKind.i64.wrap (0 - IntKind.i64.wrap (nearI (rungOf x))) else IntKind.i64.wrap (nearI (rungOf x))), true) else if x = two63 + 9223372036854775808 then (-9223372036854775808, true) else (0, false)
def roundR (x : Nat) : Int × Bool × Unit := ((roundI x).1, (roundI x).2, ())

/- points -/
def ratioQ (a b : Int) : Nat := divQF (ofI a) (ofI b)
def ratioR (a b : Int) : Nat × Unit := r1 (ratioQ a b)
def WRatio (a b : Int) : Prop := I64 a ∧ 1 ≤ b ∧ I64 b
def axisF (m : Int) (v c : Nat) : Nat := if m = 1 then canonF v else if m = -1 then canonF (negF v) else c
def frameI (f : Int) (j i : Nat) : Int := List.getD (List.getD (framesL.getD f.toNat (K.arr 3 (K.arr 3 (K.int .i64))).dflt) j (K.arr 3 (K.int .i64)).dflt) i 0
def axisP (f : Int) (s t : Nat) (i : Nat) : Nat := axisF (frameI f 2 i) t (axisF (frameI f 1 i) s (axisF (frameI f 0 i) oneR 0))
def pointQ (f : Int) (s t : Nat) : Nat × Nat × Nat := unitV (axisP f s t 0, axisP f s t 1, axisP f s t 2)
def pointR (f : Int) (s t : Nat) : (Nat × Nat × Nat) × Unit := r1 (pointQ f s t)
def WPoint (f : Int) (s t : Nat) : Prop := 0 ≤ f ∧ f ≤ 5 ∧ W64 s ∧ W64 t
def cornerOk (n f i j : Int) : Bool := goodC n && decide (0 ≤ f) && decide (f ≤ 5) && decide (0 ≤ i) && decide (i ≤ n) && decide (0 ≤ j) && decide (j ≤ n)
def cornerQ (n f i j : Int) : Nat × Nat × Nat := pointQ f (ratioQ (2 * i - n) n) (ratioQ (2 * j - n) n)
def cornerR (n f i j : Int) : (Nat × Nat × Nat) × Bool × Unit := if cornerOk n f i j then (cornerQ n f i j, true, ()) else ((0, 0, 0), false, ())
def IIII (a b c d : Int) : Prop := I64 a ∧ I64 b ∧ I64 c ∧ I64 d
def cornersR (n c : Int) : List (Nat × Nat × Nat) × Bool × Unit :=
  if placeOk n c then ([cornerQ n (c / (n * n)) (c % n) (c / n % n), cornerQ n (c / (n * n)) (c % n + 1) (c / n % n), cornerQ n (c / (n * n)) (c % n + 1) (c / n % n + 1), cornerQ n (c / (n * n)) (c % n) (c / n % n + 1)], true, ())
  else ([(0, 0, 0), (0, 0, 0), (0, 0, 0), (0, 0, 0)], false, ())
def cornerC (n c : Int) (i j : Int) : Nat × Nat × Nat := cornerQ n (c / (n * n)) (c % n + i) (c / n % n + j)
def unitArea : Nat := 4742290407621132288
def spanQ (n c : Int) : Nat := lengthQ (crossV (minusV (cornerC n c 1 1) (cornerC n c 0 0)) (minusV (cornerC n c 0 1) (cornerC n c 1 0)))
def areaI (n c : Int) : Int := if placeOk n c then imax (roundI (mulQ (mulQ (spanQ n c) halfR) unitArea)).1 1 else 0
def areaR (n c : Int) : Int × Unit := r1 (areaI n c)

/- seas -/
def betweenF (x lo hi : Nat) : Bool := (fcmp .geq (Ieee.double.order x lo) && fcmp .leq (Ieee.double.order x hi)) && decide (x ≠ 9223372036854775808)
def betweenR (x lo hi : Nat) : Bool × Unit := r1 (betweenF x lo hi)
def firstI {α : Type} (p : α → Bool) : Int → List α → Int
  | _, [] => -1
  | i, x :: xs => if p x then i else firstI p (i + 1) xs
def floatsI (l : List Nat) (m : Nat) : Int := firstI (fun x => !betweenF x (negF m) m) 0 l
def floatsR (l : List Nat) (m : Nat) : Int × Unit := r1 (floatsI l m)
def quantaN : Int → Int → List Int → Int
  | _, _, [] => -1
  | i, s, x :: xs => if x < 0 ∨ x > 4503599627370496 - s then i else quantaN (i + 1) (s + x) xs
def quantaR (l : List Int) (s : Int) : Int × Unit := r1 (quantaN 0 s l)
def WQuanta (l : List Int) (s : Int) : Prop := (∀ x ∈ l, I64 x) ∧ 0 ≤ s ∧ s ≤ 4503599627370496
def lenBad (c : Int) (i : Int) (l : Int) : Bool := decide (l ≠ c)
def checkI (n : Int) (s : Se) : Int × Int :=
  if cellsI n = 0 then (0, 10)
  else if (s.1.length : Int) ≠ cellsI n then (0, 12)
  else if (s.2.1.length : Int) ≠ cellsI n then (1, 12)
  else if (s.2.2.1.length : Int) ≠ cellsI n then (2, 12)
  else if (s.2.2.2.1.length : Int) ≠ 2 * cellsI n then (3, 12)
  else if 0 ≤ floatsI s.1 4697254411347427328 then (floatsI s.1 4697254411347427328, 13)
  else if s.2.2.2.2.1 < 0 ∨ s.2.2.2.2.1 > 4503599627370496 then (0, 17)
  else if 0 ≤ quantaN 0 s.2.2.2.2.1 s.2.1 then (quantaN 0 s.2.2.2.2.1 s.2.1, 14)
  else if 0 ≤ quantaN 0 0 s.2.2.1 then (quantaN 0 0 s.2.2.1, 15)
  else if 0 ≤ floatsI s.2.2.2.1 4652218415073722368 then (floatsI s.2.2.2.1 4652218415073722368, 16)
  else if s.2.2.2.2.2 < 0 ∨ s.2.2.2.2.2 > 4611686018427387904 then (0, 1)
  else (0, 0)
def checkR (n : Int) (s : Se) : Int × Int × Unit := ((checkI n s).1, (checkI n s).2, ())
def SeaOk (s : Se) : Prop := WL s.1 ∧ (∀ x ∈ s.2.1, I64 x) ∧ (∀ x ∈ s.2.2.1, I64 x) ∧ WL s.2.2.2.1 ∧ I64 s.2.2.2.2.1 ∧ I64 s.2.2.2.2.2
def WCheck (n : Int) (s : Se) : Prop := I64 n ∧ SeaOk s

/- tiles -/
def rootN (l : Int) : Nat → Nat → Int
  | 0, _ => 0
  | f + 1, k => if (k : Int) * k = l then k else rootN l f (k + 1)
def rootI (l : Int) : Int := rootN l 32 1
def rootR (l : Int) : Int × Unit := r1 (rootI l)
def minL (l : List Int) : Int := l.foldl imin (l.getD 0 0)
def maxL (l : List Int) : Int := l.foldl imax (l.getD 0 0)
def endsR (l : List Int) : Int × Int × Unit := (minL l, maxL l, ())
def NE (l : List Int) : Prop := 0 < l.length
def lowT (t : Ti) : Bool := t.2.2.2.all (fun x => decide (x < 2139095040)) && decide (t.2.1 = minL t.2.2.2) && decide (t.2.2.1 = maxL t.2.2.2)
def lowR (t : Ti) : Bool × Unit := r1 (lowT t)
def NET (t : Ti) : Prop := 0 < t.2.2.2.length
def goodT (t : Ti) : Bool := decide (0 ≤ t.1) && decide (t.1 ≤ 5) && decide (rootI t.2.2.2.length ≠ 0) && lowT t
def goodTR (t : Ti) : Bool × Unit := r1 (goodT t)
def bytes4 (x : Int) : List Int := [x % 256, x / 256 % 256, x / 65536 % 256, x / 16777216 % 256]
def xorI (x y : Int) : Int := ((x.toNat ^^^ y.toNat : Nat) : Int)
def encL : Int → List Int → List Int
  | _, [] => []
  | p, x :: xs => bytes4 (xorI x p) ++ encL x xs
def encT (t : Ti) : List Int := [84, 73, 76, 69, t.1, rootI t.2.2.2.length] ++ (bytes4 t.2.1 ++ (bytes4 t.2.2.1 ++ encL 0 t.2.2.2))
def encodeR (t : Ti) : List Int × Int × Unit := if goodT t then (encT t, 0, ()) else ([], 1, ())
def TiOk (t : Ti) : Prop := I64 t.1 ∧ U32 t.2.1 ∧ U32 t.2.2.1 ∧ ∀ x ∈ t.2.2.2, U32 x
def num4 (b : List Int) (k : Nat) : Int := b.getD k 0 + 256 * b.getD (k + 1) 0 + 65536 * b.getD (k + 2) 0 + 16777216 * b.getD (k + 3) 0
def num4R (b : List Int) : Int × Unit := r1 (num4 b 0)
def BLs (b : List Int) : Prop := ∀ x ∈ b, U8 x
def WNum4 (b : List Int) : Prop := BLs b ∧ 4 ≤ b.length
def decL (b : List Int) : Nat → Nat → Int → List Int
  | 0, _, _ => []
  | n + 1, i, p => xorI p (num4 b (14 + 4 * i)) :: decL b n (i + 1) (xorI p (num4 b (14 + 4 * i)))
def zeroT : Ti := (0, 0, 0, [])
def decodeT (b : List Int) : Ti × Int :=
  if b.length < 14 then (zeroT, 31)
  else if b.take 4 ≠ [84, 73, 76, 69] ∨ b.getD 4 0 > 5 ∨ b.getD 5 0 < 1 ∨ b.getD 5 0 > 32 then (zeroT, 30)
  else if (b.length : Int) < 14 + 4 * b.getD 5 0 * b.getD 5 0 then (zeroT, 31)
  else if (b.length : Int) > 14 + 4 * b.getD 5 0 * b.getD 5 0 then (zeroT, 3)
  else if goodT (b.getD 4 0, num4 b 6, num4 b 10, decL b (b.getD 5 0 * b.getD 5 0).toNat 0 0) then ((b.getD 4 0, num4 b 6, num4 b 10, decL b (b.getD 5 0 * b.getD 5 0).toNat 0 0), 0)
  else (zeroT, 30)
def decodeR (b : List Int) : Ti × Int × Unit := ((decodeT b).1, (decodeT b).2, ())
def cellB (n : Int) (s : Se) (c : Nat) : Int := to32 (depthQ (s.2.1.getD c 0) (areaI n c))
def tileF (n : Int) (s : Se) (f : Nat) : Ti := ((f : Int), minL ((List.range (n * n).toNat).map fun k => cellB n s (f * (n * n).toNat + k)), maxL ((List.range (n * n).toNat).map fun k => cellB n s (f * (n * n).toNat + k)), (List.range (n * n).toNat).map fun k => cellB n s (f * (n * n).toNat + k))
def tilesT (n : Int) (s : Se) : List Ti × Int := if (checkI n s).2 ≠ 0 then ([], (checkI n s).2) else ((List.range 6).map (tileF n s), 0)
def tilesR (n : Int) (s : Se) : List Ti × Int × Unit := ((tilesT n s).1, (tilesT n s).2, ())
def sameT (a b : Ti) : Bool := decide (a = b)
def sameTR (a b : Ti) : Bool × Unit := r1 (sameT a b)
def fourT : Ti := (5, 0, 1073741824, [1065353216, 1073741824, 0, 1065353216])
def fourR : Ti × Unit := r1 fourT
def WTB (t : Ti) (b : List Int) : Prop := TiOk t ∧ BLs b
def WTC (t : Ti) (at_ : Int) (x : Int) : Prop := TiOk t ∧ I64 at_ ∧ U8 x
end Go.Lift

/- Floats made whole, floats of 32 bits: plain laws. Own work. -/
set_option linter.unusedVariables false
set_option linter.unusedSimpArgs false
namespace Go.Lift
open Ieee

theorem cutZ_le (way : Toward) (hw : way = .down ∨ way = .zero) (n d : Nat) : way.cut false n d ≤ n := by
  rcases hw with rfl | rfl <;> simp only [Toward.cut, Bool.false_and, Bool.toNat_false, Nat.add_zero] <;> exact Nat.div_le_self _ _

theorem pow_split (m a b : Nat) : m * 2 ^ (a + b) = m * 2 ^ a * 2 ^ b := by rw [Nat.pow_add, Nat.mul_assoc]
theorem cut_small {n d : Nat} (h : n ≤ 2 ^ 53) (hd : 53 ≤ d) : cutE n d ≤ 1 := by
  obtain ⟨k, rfl⟩ : ∃ k, d = 53 + k := ⟨d - 53, by omega⟩
  apply cutE_le
  rw [Nat.one_mul, Nat.pow_add]
  exact Nat.le_trans h (Nat.le_mul_of_pos_right _ (Nat.two_pow_pos k))
theorem val_up {r : Nat} (u : Nat) (hu : u = 1074) (hp : 0 ≤ placeOf r) : valR r = magOf r * 2 ^ (placeOf r).toNat * 2 ^ u := by
  have e : (placeOf r + 1074).toNat = (placeOf r).toNat + u := by omega
  unfold valR
  rw [e, pow_split]
theorem le_pow {a b u : Nat} (h : a * 2 ^ u ≤ b * 2 ^ u) : a ≤ b := Nat.le_of_mul_le_mul_right h (Nat.two_pow_pos u)
theorem val_63 : valR two63 = 9223372036854775808 * 2 ^ U74 := by decide +kernel
theorem whole_le {way : Toward} (hw : way = .down ∨ way = .zero) {r : Nat} (h : r ≤ two63) : way.cut false (magOf r <<< (placeOf r).toNat) (-placeOf r).toNat ≤ 9223372036854775808 := by
  have hv := (valR_le (r := r) (r' := two63)).2 h
  refine Nat.le_trans (cutZ_le way hw _ _) ?_
  rw [Nat.shiftLeft_eq]
  by_cases hp : 0 ≤ placeOf r
  · rw [val_up U74 rfl hp, val_63] at hv
    exact le_pow hv
  · have e : (placeOf r).toNat = 0 := by omega
    rw [e, Nat.pow_zero, Nat.mul_one]
    unfold magOf
    split
    · unfold bin at *; omega
    · have := Nat.mod_lt r (show 0 < bin by decide); unfold bin at *; omega

theorem floor_word {a : Nat} (h : a < two63) : ∃ k, k ≤ 9223372036854775808 ∧ floorF a = double.word false (rnd k 0) := by
  have hs : rungOf a = a := rung_lo (by unfold two63 at h; omega)
  have hg : sgn a = false := (small_sgn (by unfold two63 at h; omega)).1
  have hi : rungOf a < infR := by rw [hs]; unfold two63 at h; unfold infR; omega
  refine ⟨Toward.down.cut false (magOf a <<< (placeOf a).toNat) (-placeOf a).toNat, whole_le (.inl rfl) (Nat.le_of_lt h), ?_⟩
  unfold floorF
  rw [read_num hi, hs, hg]
  show double.nearest false _ 0 = _
  rw [nearest_eq]
theorem rnd63 {k : Nat} (h : k ≤ 9223372036854775808) : rnd k 0 ≤ two63 := by
  have := rnd_mono' 0 h
  have e : rnd 9223372036854775808 0 = two63 := by decide +kernel
  omega
theorem floor_read {a : Nat} (h : a < two63) : ∃ r, r ≤ two63 ∧ floorF a = double.word false r ∧ double.read (floorF a) = .number false (magOf r) (placeOf r) := by
  obtain ⟨k, hk, e⟩ := floor_word h
  have hr := rnd63 hk
  refine ⟨rnd k 0, hr, e, ?_⟩
  rw [e]
  obtain ⟨w1, w2, w3⟩ := word_parts (s := false) (r := rnd k 0) (by unfold two63 at hr; unfold sw; omega)
  rw [read_num (by rw [w1]; unfold two63 at hr; unfold infR; omega), w1, w2]
theorem whole_rng {a : Nat} (h : a < two63) : (double.read (floorF a)).toInt .zero = some (wholeI (floorF a)) ∧ 0 ≤ wholeI (floorF a) ∧ wholeI (floorF a) ≤ 9223372036854775808 := by
  obtain ⟨r, hr, _, e⟩ := floor_read h
  unfold wholeI
  rw [e]
  have := whole_le (way := .zero) (.inr rfl) hr
  refine ⟨rfl, ?_⟩
  show 0 ≤ signed false (Toward.zero.cut false (magOf r <<< (placeOf r).toNat) (-placeOf r).toNat) 0 ∧ signed false (Toward.zero.cut false (magOf r <<< (placeOf r).toNat) (-placeOf r).toNat) 0 ≤ 9223372036854775808
  generalize Toward.zero.cut false (magOf r <<< (placeOf r).toNat) (-placeOf r).toNat = q at this
  have e : signed false q 0 = (q : Int) := by unfold signed; rw [if_neg (by decide), Nat.shiftLeft_zero]
  rw [e]
  omega
theorem floor_int {a : Nat} (h : a < two63) {n : Int} (hn : F2I .f64 (floorF a) .u64 n) : n = wholeI (floorF a) := by
  obtain ⟨h1, h2, h3⟩ := whole_rng h
  unfold F2I at hn
  rw [show (FloatKind.f64.format.read (floorF a)).toInt .zero = some (wholeI (floorF a)) from h1] at hn
  dsimp only at hn
  rwa [if_pos ⟨by show (0 : Int) ≤ _; exact h2, by show _ ≤ (18446744073709551615 : Int); omega⟩] at hn

/- comparisons -/
theorem lss_rung (a : Nat) : fcmp .lss (double.order (rungOf a) two63) = decide (rungOf a < two63) := by
  have hs := small_sgn (rung_lt a)
  have ht := small_sgn (show two63 < 9223372036854775808 by decide)
  by_cases hn : isN (rungOf a) = true
  · rw [order_nan (.inl hn)]
    unfold isN at hn; rw [hs.2.1] at hn
    have := of_decide_eq_true hn
    symm; show decide _ = false
    rw [decide_eq_false_iff_not]; unfold two63; unfold infR at this; omega
  · rw [order_eq (by simpa using hn) (by decide)]
    unfold keyOf'
    rw [hs.1, ht.1, hs.2.1, ht.2.1]
    simp only [Bool.false_eq_true, if_false, fcmp]
    by_cases h : rungOf a < two63
    · rw [decide_eq_true h, Std.compare_eq_lt.2 (by omega)]; rfl
    · rw [decide_eq_false h]
      rcases Nat.lt_or_eq_of_le (Nat.le_of_not_lt h) with g | g
      · rw [Std.compare_eq_gt.2 (by omega)]; rfl
      · rw [← g, Std.compare_self]; rfl
theorem geq_big (a : Nat) : fcmp .geq (double.order (rungOf a) 5183643170835005440) = (!isN a && decide (5183643170835005440 ≤ rungOf a)) := by
  have hs := small_sgn (rung_lt a)
  have ht := small_sgn (show 5183643170835005440 < 9223372036854775808 by decide)
  have hq : isN (rungOf a) = isN a := by unfold isN; rw [hs.2.1]
  by_cases hn : isN a = true
  · rw [order_nan (.inl (hq.trans hn)), hn]; rfl
  · have hn : isN a = false := by simpa using hn
    rw [order_eq (hq.trans hn) (by decide), hn]
    unfold keyOf'
    rw [hs.1, ht.1, hs.2.1, ht.2.1]
    simp only [Bool.false_eq_true, if_false, fcmp, Bool.not_false, Bool.true_and]
    by_cases h : rungOf a < 5183643170835005440
    · rw [decide_eq_false (by omega), Std.compare_eq_lt.2 (by omega)]; rfl
    · rw [decide_eq_true (by omega)]
      rcases Nat.lt_or_eq_of_le (Nat.le_of_not_lt h) with g | g
      · rw [Std.compare_eq_gt.2 (by omega)]; rfl
      · rw [← g, Std.compare_self]; rfl
theorem lss_nought {a : Nat} (hn : isN a = false) : fcmp .lss (double.order a 0) = (sgn a && decide (rungOf a ≠ 0)) := by
  rw [order_eq hn (by decide)]
  have e : keyOf' 0 = 0 := by decide
  rw [e]
  unfold keyOf'
  simp only [fcmp]
  cases hs : sgn a
  · simp only [Bool.false_eq_true, if_false, Bool.false_and]
    rcases Nat.eq_zero_or_pos (rungOf a) with g | g
    · rw [g]; rfl
    · rw [Std.compare_eq_gt.2 (by omega)]; rfl
  · simp only [if_true, Bool.true_and]
    rcases Nat.eq_zero_or_pos (rungOf a) with g | g
    · rw [g]; rfl
    · rw [Std.compare_eq_lt.2 (by omega), decide_eq_true (by omega)]; rfl
theorem eql_min {a : Nat} (h : W64 a) : fcmp .eql (double.order a 14114281232179134464) = decide (a = 14114281232179134464) := by
  by_cases hn : isN a = true
  · rw [order_nan (.inl hn)]
    symm; show decide _ = false
    rw [decide_eq_false_iff_not]; rintro rfl; revert hn; decide
  · have hn : isN a = false := by simpa using hn
    rw [order_eq hn (by decide)]
    have e : keyOf' 14114281232179134464 = -4890909195324358656 := by decide
    rw [e]
    simp only [fcmp]
    by_cases g : a = 14114281232179134464
    · subst g; decide
    · rw [decide_eq_false g]
      have : keyOf' a ≠ -4890909195324358656 := by
        intro hk
        unfold keyOf' at hk
        split at hk
        · rename_i hs
          have := (sgn_iff h).1 hs
          rw [rung_hi h this] at hk
          omega
        · omega
      rcases Int.lt_or_gt_of_ne this with q | q
      · rw [Std.compare_eq_lt.2 q]; rfl
      · rw [Std.compare_eq_gt.2 q]; rfl

/- 32 bits -/
theorem single_small {r : Nat} (h : r < 5183643170835005440) : ∃ k, k < 2139095040 ∧ single.write (double.read r) = k := by
  have hi : rungOf r = r := rung_lo (by omega)
  have hsg := (small_sgn (r := r) (by omega)).1
  rw [read_num (by rw [hi]; unfold infR; omega), hi, hsg]
  show ∃ k, k < 2139095040 ∧ single.nearest false (magOf r) (placeOf r) = k
  unfold Format.nearest
  by_cases h0 : magOf r = 0
  · rw [if_pos h0]; exact ⟨_, by decide, rfl⟩
  rw [if_neg h0]
  dsimp only
  rw [cut_eq false _ _ (by rw [Nat.shiftLeft_eq]; exact Nat.mul_ne_zero h0 (by have := Nat.two_pow_pos (placeOf r - max (placeOf r + (magOf r).log2 - single.fractionBits) single.leastPlace).toNat; omega))]
  refine ⟨_, ?_, rfl⟩
  unfold Format.word
  rw [if_neg (by decide)]
  refine Nat.lt_of_le_of_lt (Nat.min_le_left _ _) ?_
  have hl : single.leastPlace = -149 := by decide
  have hf : single.fractionBits = 23 := rfl
  have hb : single.binade = 8388608 := by decide
  rw [hl, hf, hb, Nat.shiftLeft_eq]
  by_cases hr : r < bin
  · have e1 : magOf r = r := by unfold magOf; rw [if_pos hr]
    have e2 : placeOf r = -1074 := by unfold placeOf; rw [if_pos hr]
    have hlog : r.log2 ≤ 52 := by
      rcases Nat.eq_zero_or_pos r with z | z
      · subst z; decide
      · have := (Nat.log2_lt (n := r) (k := 53) (by omega)).2 (by unfold bin at hr; omega)
        omega
    rw [e1, e2]
    have e3 : max (-1074 + (r.log2 : Int) - ((23 : Nat) : Int)) (-149) = -149 := by omega
    rw [e3]
    have e4 : ((-1074 : Int) - -149).toNat = 0 := by decide
    have e5 : ((-149 : Int) - -1074).toNat = 925 := by decide
    have e6 : ((-149 : Int) - -149).toNat = 0 := by decide
    rw [e4, e5, e6, Nat.pow_zero, Nat.mul_one]
    have : cutE r 925 ≤ 1 := cut_small (by unfold bin at hr; omega) (by decide)
    omega
  · obtain ⟨q1, q2, q3⟩ := rung_parts (r := r) (by omega)
    have hlog : (magOf r).log2 = 52 := by
      have a := (Nat.log2_lt (n := magOf r) (k := 53) h0).2 (by unfold bin at q3; omega)
      have b := Nat.log2_lt (n := magOf r) (k := 52) h0
      rw [show (2 : Nat) ^ 52 = bin from rfl] at b
      omega
    rw [hlog]
    by_cases hsm : placeOf r + 29 ≤ -149
    · have e3 : max (placeOf r + ((52 : Nat) : Int) - ((23 : Nat) : Int)) (-149) = -149 := by omega
      rw [e3]
      have e4 : (placeOf r - -149).toNat = 0 := by omega
      have e6 : ((-149 : Int) - -149).toNat = 0 := by decide
      rw [e4, e6, Nat.pow_zero, Nat.mul_one]
      have : cutE (magOf r) (-149 - placeOf r).toNat ≤ 16777216 := by
        apply cutE_le
        obtain ⟨d, hd⟩ : ∃ d, (-149 - placeOf r).toNat = 29 + d := ⟨(-149 - placeOf r).toNat - 29, by omega⟩
        rw [hd, Nat.pow_add, ← Nat.mul_assoc]
        have h1 : 1 ≤ 2 ^ d := Nat.two_pow_pos d
        have h2 : magOf r ≤ 16777216 * 2 ^ 29 := by unfold bin at q3; omega
        exact Nat.le_trans h2 (Nat.le_mul_of_pos_right _ h1)
      omega
    · have e3 : max (placeOf r + ((52 : Nat) : Int) - ((23 : Nat) : Int)) (-149) = placeOf r + 29 := by omega
      rw [e3]
      have e4 : (placeOf r - (placeOf r + 29)).toNat = 0 := by omega
      have e5 : (placeOf r + 29 - placeOf r).toNat = 29 := by omega
      rw [e4, e5, Nat.pow_zero, Nat.mul_one]
      have hp : placeOf r ≤ 75 := by unfold bin at *; omega
      by_cases hp2 : placeOf r ≤ 74
      · have : cutE (magOf r) 29 ≤ 16777216 := by
          apply cutE_le
          unfold bin at q3; omega
        omega
      · have hm : magOf r < 9007198986305536 := by unfold bin at *; omega
        have : cutE (magOf r) 29 ≤ 16777215 := by
          apply cutE_dn
          omega
        omega
theorem single_fin {k : Nat} (h : k < 2139095040) : (single.read k).isInfinity = false := by
  have e1 : single.signWeight = 2147483648 := by decide
  have e2 : single.infRung = 2139095040 := by decide
  unfold Format.read
  rw [e1, e2, Nat.mod_eq_of_lt (by omega)]
  dsimp only
  split
  · rfl
  · rw [if_pos (by omega)]; rfl
theorem to32_conv {r n : Nat} (h : r < 5183643170835005440) (hn : F2F .f64 r .f32 n) : n = single.write (double.read r) := by
  have hi : rungOf r = r := rung_lo (by omega)
  have hsg := (small_sgn (r := r) (by omega)).1
  obtain ⟨k, hk, e⟩ := single_small h
  unfold F2F at hn
  rw [if_neg (by decide)] at hn
  rw [read_num (by rw [hi]; unfold infR; omega)] at e ⊢
  rw [show FloatKind.f64.format.read r = _ from read_num (by rw [hi]; unfold infR; omega)] at hn
  dsimp only at hn
  rw [show FloatKind.f32.format.write _ = k from e, show (FloatKind.f32.format.read k).isInfinity = false from single_fin hk, if_neg (by decide)] at hn
  rw [hn, e]
theorem wrap_u32 (x : Int) : IntKind.u32.wrap x = x % 4294967296 := by simp [IntKind.wrap, IntKind.bits, IntKind.signed]
theorem and31 {x : Nat} (h : x < 4294967296) : x &&& 2147483648 = if 2147483648 ≤ x then 2147483648 else 0 := by
  apply Nat.eq_of_testBit_eq
  intro i
  rw [Nat.testBit_and, show (2147483648 : Nat) = 2 ^ 31 from rfl, Nat.testBit_two_pow]
  by_cases hi : 31 = i
  · subst hi
    rw [decide_eq_true rfl, Bool.and_true]
    split
    · rename_i g
      rw [Nat.testBit_two_pow_self, Nat.testBit_eq_decide_div_mod_eq, decide_eq_true_iff]
      omega
    · rename_i g
      rw [Nat.zero_testBit, Nat.testBit_eq_decide_div_mod_eq, decide_eq_false_iff_not]
      omega
  · rw [decide_eq_false hi, Bool.and_false]
    split
    · rw [Nat.testBit_two_pow, decide_eq_false hi]
    · rw [Nat.zero_testBit]
theorem sign_part {a : Nat} (h : W64 a) : IntKind.u32.wrap (Go.bits .and .u64 (Int.fdiv (a : Int) ((2 : Int) ^ Min.min (Int.toNat (32 : Int)) IntKind.u64.bits)) 2147483648) = if sgn a then 2147483648 else 0 := by
  have e0 : (2 : Int) ^ Min.min (Int.toNat (32 : Int)) IntKind.u64.bits = ((4294967296 : Nat) : Int) := by decide
  have e1 : Int.fdiv (a : Int) ((4294967296 : Nat) : Int) = ((a / 4294967296 : Nat) : Int) := by
    rw [Int.fdiv_eq_ediv_of_nonneg _ (by omega)]; rfl
  have hlt : a / 4294967296 < 4294967296 := by unfold W64 at h; omega
  rw [e0, e1]
  have := bits_and_u64_nat (a / 4294967296) 2147483648 (by omega) (by decide)
  rw [show ((2147483648 : Nat) : Int) = 2147483648 from rfl] at this
  rw [this, wrap_u32]
  rw [and31 hlt, sgn_dec h]
  by_cases q : 9223372036854775808 ≤ a
  · rw [decide_eq_true q, if_pos (by omega), if_pos rfl]; rfl
  · rw [decide_eq_false q, if_neg (by omega), if_neg (by decide)]; rfl
theorem or32 (s : Bool) {k : Nat} (h : k < 2147483648) : Go.bits .or .u32 (if s then 2147483648 else 0) (k : Int) = (if s then 2147483648 else 0) + (k : Int) := by
  cases s
  · show IntKind.u32.wrap ((BitVec.ofInt 32 0 ||| BitVec.ofInt 32 (k : Int)).toNat : Int) = 0 + (k : Int)
    rw [show BitVec.ofInt 32 0 = (0#32 : BitVec 32) from rfl, BitVec.zero_or, wrap_u32, BitVec.ofInt_natCast, BitVec.toNat_ofNat]
    omega
  · show IntKind.u32.wrap ((BitVec.ofInt 32 ((2147483648 : Nat) : Int) ||| BitVec.ofInt 32 (k : Int)).toNat : Int) = 2147483648 + (k : Int)
    rw [wrap_u32, BitVec.ofInt_natCast, BitVec.ofInt_natCast, BitVec.toNat_or, BitVec.toNat_ofNat, BitVec.toNat_ofNat]
    have e : (2147483648 % 2 ^ 32) ||| (k % 2 ^ 32) = 2147483648 + k := by
      rw [Nat.mod_eq_of_lt (by omega), Nat.mod_eq_of_lt (by omega)]
      have := Nat.two_pow_add_eq_or_of_lt (i := 31) h 1
      simpa using this.symm
    rw [e]; omega
end Go.Lift

/- Cells, conversions: small laws. Own work. -/
set_option linter.unusedVariables false
set_option linter.unusedSimpArgs false
namespace Go.Lift
open Ieee
theorem goodC_iff {n : Int} : goodC n = true ↔ 1 ≤ n ∧ n ≤ 32 := by unfold goodC; simp
theorem goodC_false {n : Int} : goodC n = false ↔ n < 1 ∨ 32 < n := by
  unfold goodC
  rw [Bool.and_eq_false_iff, decide_eq_false_iff_not, decide_eq_false_iff_not]; omega
theorem sq_bd {n : Int} (h1 : 1 ≤ n) (h2 : n ≤ 32) : 1 ≤ n * n ∧ n * n ≤ 1024 := by
  have a := Int.mul_le_mul h1 h1 (by omega) (by omega)
  have b := Int.mul_le_mul h2 h2 (by omega) (by omega)
  omega
theorem cells_good {n : Int} (h : goodC n = true) : cellsI n = 6 * (n * n) := by
  unfold cellsI; rw [if_pos h, Int.mul_assoc]
theorem cells_bad {n : Int} (h : goodC n = false) : cellsI n = 0 := by
  unfold cellsI; rw [if_neg (by rw [h]; decide)]
theorem cells_wrap {a : Int} (h : goodC a = true) : IntKind.i64.wrap (IntKind.i64.wrap (6 * a) * a) = cellsI a := by
  obtain ⟨h1, h2⟩ := goodC_iff.1 h
  have := sq_bd h1 h2
  rw [cells_good h, wi (x := 6 * a) ⟨by omega, by omega⟩, Int.mul_assoc, wi ⟨by omega, by omega⟩]
theorem place_facts {n c : Int} (h : placeOk n c = true) : 1 ≤ n ∧ n ≤ 32 ∧ 0 ≤ c ∧ c < 6 * (n * n) ∧ 1 ≤ n * n ∧ n * n ≤ 1024 := by
  unfold placeOk at h
  simp only [Bool.and_eq_true, decide_eq_true_eq] at h
  cases hg : goodC n with
  | false => rw [cells_bad hg] at h; omega
  | true =>
    rw [cells_good hg] at h
    obtain ⟨h1, h2⟩ := goodC_iff.1 hg
    have := sq_bd h1 h2
    omega
theorem place_rng {n c : Int} (h : placeOk n c = true) : 0 ≤ c / (n * n) ∧ c / (n * n) ≤ 5 ∧ 0 ≤ c % n ∧ c % n < n ∧ 0 ≤ c / n % n ∧ c / n % n < n := by
  obtain ⟨h1, h2, h3, h4, h5, h6⟩ := place_facts h
  refine ⟨Int.ediv_nonneg h3 (by omega), ?_, Int.emod_nonneg _ (by omega), Int.emod_lt_of_pos _ (by omega), Int.emod_nonneg _ (by omega), Int.emod_lt_of_pos _ (by omega)⟩
  have := Int.ediv_lt_of_lt_mul (a := c) (b := 6) (c := n * n) (by omega) h4
  omega
theorem sub_congr_order {x y b : Nat} (h : FRes .f64 (FloatKind.f64.format.sub x y) b) (z : Nat) : double.order b z = double.order (subQ x y) z := order_quiet (fsub h).1 z
theorem wu1 {x : Int} (h : 0 ≤ x ∧ x < 18446744073709551616) : IntKind.u64.wrap x = x := wu x h

theorem ofI_word {n : Int} (h : 1 ≤ n) (h2 : I64 n) : ofI n = double.word false (rnd n.toNat 0) ∧ bin ≤ rnd n.toNat 0 ∧ rnd n.toNat 0 < infR := by
  have e : ofI n = double.word false (rnd n.toNat 0) := by
    show double.nearest (decide (n < 0)) n.natAbs 0 = _
    rw [nearest_eq, decide_eq_false (by omega)]
    congr 2; omega
  refine ⟨e, ?_, ?_⟩
  · have := rnd_mono' (m := 1) (m' := n.toNat) 0 (by omega)
    have e : bin ≤ rnd 1 0 := by decide +kernel
    omega
  · have := rnd_mono' (m := n.toNat) (m' := 9223372036854775808) 0 (by unfold I64 at h2; omega)
    have e : rnd 9223372036854775808 0 < infR := by decide +kernel
    omega
theorem ofI_fin (n : Int) (h2 : I64 n) : rungOf (ofI n) < infR ∧ W64 (ofI n) := by
  have e : ofI n = double.word (decide (n < 0)) (rnd n.natAbs 0) := by
    show double.nearest (decide (n < 0)) n.natAbs 0 = _
    rw [nearest_eq]
  have := rnd_mono' (m := n.natAbs) (m' := 9223372036854775808) 0 (by unfold I64 at h2; omega)
  have e2 : rnd 9223372036854775808 0 < infR := by decide +kernel
  obtain ⟨w1, w2, w3⟩ := word_parts (s := decide (n < 0)) (r := rnd n.natAbs 0) (by unfold infR at e2; unfold sw; omega)
  rw [e]
  exact ⟨by rw [w1]; omega, w3⟩
theorem div_some {x y : Nat} (hx : rungOf x < infR) (hy : rungOf y < infR) (h0 : rungOf y ≠ 0) : double.div x y = some (divQF x y) := by
  unfold divQF
  have : ∃ d, double.div x y = some d := by
    unfold Format.div
    rw [read_num hx, read_num hy]
    unfold Datum.quotient
    dsimp only
    rw [if_neg (by
      intro h
      have : valR (rungOf y) = 0 := by unfold valR; rw [h, Nat.zero_mul]
      exact h0 (valR_eq_zero.1 this))]
    exact ⟨_, rfl⟩
  obtain ⟨d, e⟩ := this
  rw [e]; rfl
theorem div_exact {x y b : Nat} (hx : rungOf x < infR) (hy : rungOf y < infR) (h0 : rungOf y ≠ 0) (h : FRes .f64 (FloatKind.f64.format.div x y) b) : b = divQF x y := by
  unfold FRes at h
  rw [show FloatKind.f64.format.div x y = some (divQF x y) from div_some hx hy h0] at h
  exact h
theorem ofI_pos {n : Int} (h : 1 ≤ n) (h2 : I64 n) : rungOf (ofI n) < infR ∧ rungOf (ofI n) ≠ 0 := by
  obtain ⟨e, e1, e2⟩ := ofI_word h h2
  obtain ⟨w1, w2, w3⟩ := word_parts (s := false) (r := rnd n.toNat 0) (by unfold infR at e2; unfold sw; omega)
  rw [e, w1]
  exact ⟨e2, by unfold bin at e1; omega⟩
theorem div_ofI {a b : Int} (ha : I64 a) (hb : 1 ≤ b) (hb2 : I64 b) {r : Nat} (h : FRes .f64 (FloatKind.f64.format.div (ofI a) (ofI b)) r) : r = divQF (ofI a) (ofI b) :=
  div_exact (ofI_fin a ha).1 (ofI_pos hb hb2).1 (ofI_pos hb hb2).2 h
theorem divQF_W (x y : Nat) : W64 (divQF x y) := divQF_w x y

/- points -/
theorem br_axis {m : Int} {v c : Nat} {P : Nat → Prop} (h : P (axisF m v c)) {X Y Z : Prop} (hx : P (canonF v) → X) (hy : P (canonF (negF v)) → Y) (hz : P c → Z) : Br (m == 1) X (Br (m == -1) Y Z) := by
  unfold axisF at h
  refine Br.intro (fun e => ?_) fun e => ?_
  · have e : m = 1 := by simpa using e
    rw [if_pos e] at h; exact hx h
  · have e : ¬ m = 1 := by simpa using e
    rw [if_neg e] at h
    refine Br.intro (fun g => ?_) fun g => ?_
    · have g : m = -1 := by simpa using g
      rw [if_pos g] at h; exact hy h
    · have g : ¬ m = -1 := by simpa using g
      rw [if_neg g] at h; exact hz h
theorem axisF_w {m : Int} {v c : Nat} (hv : W64 v) (hc : W64 c) : W64 (axisF m v c) := by
  unfold axisF
  split
  · exact canonF_w hv
  · split
    · exact canonF_w (negF_w hv)
    · exact hc
theorem axisP_w (f : Int) {s t : Nat} (hs : W64 s) (ht : W64 t) (i : Nat) : W64 (axisP f s t i) :=
  axisF_w ht (axisF_w hs (axisF_w (by unfold W64 oneR; decide) (by unfold W64; decide)))
theorem ratio_wrap {n i : Int} (h1 : 1 ≤ n) (h2 : n ≤ 32) (h3 : 0 ≤ i) (h4 : i ≤ n) : IntKind.i64.wrap (IntKind.i64.wrap (2 * i) - n) = 2 * i - n ∧ WRatio (2 * i - n) n := by
  rw [wi (x := 2 * i) ⟨by omega, by omega⟩, wi ⟨by omega, by omega⟩]
  exact ⟨rfl, ⟨by omega, by omega⟩, h1, by omega, by omega⟩
theorem wv0 : WV (0, 0, 0) := ⟨by unfold W64; decide, by unfold W64; decide, by unfold W64; decide⟩
theorem unitV_w (a : Nat × Nat × Nat) : WV (unitV a) := by
  unfold unitV
  split
  · exact canonV_w (divQF_w _ _) (divQF_w _ _) (divQF_w _ _)
  · exact wv0
theorem crossV_w (a b : Nat × Nat × Nat) : WV (crossV a b) := canonV_w (subQ_w _ _) (subQ_w _ _) (subQ_w _ _)
theorem cornerQ_w (n f i j : Int) : WV (cornerQ n f i j) := unitV_w _
theorem corners_w (n c : Int) (i : Nat) : WV ((cornersR n c).1.getD i (0, 0, 0)) := by
  unfold cornersR
  split
  · match i with
    | 0 => exact cornerQ_w _ _ _ _
    | 1 => exact cornerQ_w _ _ _ _
    | 2 => exact cornerQ_w _ _ _ _
    | 3 => exact cornerQ_w _ _ _ _
    | k + 4 => exact wv0
  · match i with
    | 0 => exact wv0
    | 1 => exact wv0
    | 2 => exact wv0
    | 3 => exact wv0
    | k + 4 => exact wv0
theorem span_l {l : List (Nat × Nat × Nat)} {a b c d z : Nat × Nat × Nat} (h : l = [a, b, c, d]) : (lengthR (crossR (minusR (l.getD (Int.toNat (2 : Int)) z) (l.getD (Int.toNat (0 : Int)) z)).fst (minusR (l.getD (Int.toNat (3 : Int)) z) (l.getD (Int.toNat (1 : Int)) z)).fst).fst).fst = lengthQ (crossV (minusV c a) (minusV d b)) := by
  subst h; rfl
theorem corners_len (n c : Int) : (cornersR n c).1.length = 4 := by unfold cornersR; split <;> rfl
theorem corners_ok (n c : Int) : (cornersR n c).2.1 = placeOk n c := by
  unfold cornersR
  cases h : placeOk n c
  · rfl
  · rfl
theorem round_quiet {x : Nat} (h : W64 x) : roundI x = roundI (quietF x) := by
  unfold quietF
  split
  · rename_i e
    have q : roundI QN = (0, false) := by decide +kernel
    rw [q]
    unfold roundI
    have : infR < rungOf x := by unfold isN at e; exact of_decide_eq_true e
    rw [if_neg (by unfold two63; unfold infR at this; omega), if_neg (by
      rintro rfl
      revert this; decide)]
  · rfl

/- lists gone through -/
theorem drop_step {α : Type} {l : List α} {i : Nat} (h : i < l.length) (d : α) : l.drop i = l.getD i d :: l.drop (i + 1) := by
  rw [List.drop_eq_getElem_cons h, List.getD_eq_getElem?_getD, List.getElem?_eq_getElem h]; rfl
theorem wi_succ {i : Nat} {n : Nat} (h : i < n) (hn : n ≤ 9223372036854775807) : IntKind.i64.wrap ((i : Int) + 1) = ((i + 1 : Nat) : Int) := by
  rw [wi ⟨by omega, by omega⟩]; omega
theorem getD_mem {α : Type} {l : List α} {i : Nat} (h : i < l.length) (d : α) : l.getD i d ∈ l := by
  rw [List.getD_eq_getElem?_getD, List.getElem?_eq_getElem h]; exact List.getElem_mem h
theorem quantaN_cons (i s x : Int) (xs : List Int) : quantaN i s (x :: xs) = if x < 0 ∨ x > 4503599627370496 - s then i else quantaN (i + 1) (s + x) xs := rfl
theorem firstI_cons {α : Type} (p : α → Bool) (i : Int) (x : α) (xs : List α) : firstI p i (x :: xs) = if p x then i else firstI p (i + 1) xs := rfl
theorem cells_rng (n : Int) : 0 ≤ cellsI n ∧ cellsI n ≤ 6144 := by
  cases hg : goodC n with
  | false => rw [cells_bad hg]; omega
  | true => rw [cells_good hg]; have := sq_bd (goodC_iff.1 hg).1 (goodC_iff.1 hg).2; omega
theorem bne_int {a b : Int} : ((a != b) = true → a ≠ b) ∧ ((a != b) = false → a = b) := ⟨fun h => by simpa using h, fun h => by simpa using h⟩
end Go.Lift

/- Tiles: roots, ends, bytes. Own work. -/
set_option linter.unusedVariables false
set_option linter.unusedSimpArgs false
namespace Go.Lift
theorem named_true {X : Bool} {P Q : Prop} (h : X = true) (p : P) : ∀ a : Bool, a = X → Br a P Q := by
  rintro _ rfl; rw [h]; exact p
theorem named_false {X : Bool} {P Q : Prop} (h : X = false) (q : Q) : ∀ a : Bool, a = X → Br a P Q := by
  rintro _ rfl; rw [h]; exact q
theorem rootN_succ (l : Int) (f k : Nat) : rootN l (f + 1) k = if (k : Int) * k = l then (k : Int) else rootN l f (k + 1) := rfl
theorem rootN_rng (l : Int) : ∀ (f k : Nat), 1 ≤ k → rootN l f k ≠ 0 → (k : Int) ≤ rootN l f k ∧ rootN l f k < (k + f : Nat) ∧ rootN l f k * rootN l f k = l
  | 0, k, _, h => absurd rfl h
  | f + 1, k, hk, h => by
    rw [rootN_succ] at h ⊢
    split
    · rename_i e; exact ⟨by omega, by omega, e⟩
    · rename_i e
      rw [if_neg e] at h
      have := rootN_rng l f (k + 1) (by omega) h
      omega
theorem root_rng {l : Int} (h : rootI l ≠ 0) : 1 ≤ rootI l ∧ rootI l ≤ 32 ∧ rootI l * rootI l = l := by
  have := rootN_rng l 32 1 (by omega) h
  unfold rootI
  omega
theorem rootN_sq (n : Nat) : ∀ (f k : Nat), k ≤ n → n < k + f → rootN ((n : Int) * n) f k = n
  | 0, k, h1, h2 => by omega
  | f + 1, k, h1, h2 => by
    rw [rootN_succ]
    split
    · rename_i e
      have : k * k = n * n := by exact_mod_cast e
      have : k = n := by
        rcases Nat.lt_or_eq_of_le h1 with g | g
        · have := Nat.mul_lt_mul_of_lt_of_le g (Nat.le_of_lt g) (by omega); omega
        · exact g
      rw [this]
    · rename_i e
      exact rootN_sq n f (k + 1) (by
        rcases Nat.lt_or_eq_of_le h1 with g | g
        · exact g
        · subst g; exact absurd rfl e) (by omega)
theorem root_sq {n : Int} (h1 : 1 ≤ n) (h2 : n ≤ 32) : rootI (n * n) = n := by
  obtain ⟨k, rfl⟩ : ∃ k : Nat, n = k := ⟨n.toNat, by omega⟩
  exact rootN_sq k 32 1 (by omega) (by omega)

theorem imin_of {a b : Int} (h : b < a) : imin a b = b := by unfold imin; rw [if_pos h]
theorem imin_not {a b : Int} (h : ¬ b < a) : imin a b = a := by unfold imin; rw [if_neg h]
theorem imax_of {a b : Int} (h : b > a) : imax a b = b := by unfold imax; rw [if_pos h]
theorem imax_not {a b : Int} (h : ¬ b > a) : imax a b = a := by unfold imax; rw [if_neg h]
theorem take_step {α : Type} {l : List α} {i : Nat} (h : i < l.length) (d : α) : l.take (i + 1) = l.take i ++ [l.getD i d] := by
  rw [List.take_add_one, List.getD_eq_getElem?_getD, List.getElem?_eq_getElem h]; rfl
theorem foldl_step {α β : Type} (f : α → β → α) {l : List β} {i : Nat} (h : i < l.length) (d : β) (x : α) : (l.take (i + 1)).foldl f x = f ((l.take i).foldl f x) (l.getD i d) := by
  rw [take_step h d, List.foldl_append]; rfl
theorem all_step {α : Type} (p : α → Bool) {l : List α} {i : Nat} (h : i < l.length) (d : α) : (l.take (i + 1)).all p = ((l.take i).all p && p (l.getD i d)) := by
  rw [take_step h d, List.all_append]; simp
theorem fold_min_le (l : List Int) : ∀ x : Int, l.foldl imin x ≤ x ∧ ∀ y ∈ l, l.foldl imin x ≤ y := by
  induction l with
  | nil => intro x; exact ⟨Int.le_refl _, fun y h => by cases h⟩
  | cons a l ih =>
    intro x
    have h := ih (imin x a)
    have e : imin x a ≤ x ∧ imin x a ≤ a := by unfold imin; split <;> omega
    refine ⟨Int.le_trans h.1 e.1, fun y hy => ?_⟩
    rcases List.mem_cons.1 hy with rfl | hy
    · exact Int.le_trans h.1 e.2
    · exact h.2 y hy
theorem fold_max_ge (l : List Int) : ∀ x : Int, x ≤ l.foldl imax x ∧ ∀ y ∈ l, y ≤ l.foldl imax x := by
  induction l with
  | nil => intro x; exact ⟨Int.le_refl _, fun y h => by cases h⟩
  | cons a l ih =>
    intro x
    have h := ih (imax x a)
    have e : x ≤ imax x a ∧ a ≤ imax x a := by unfold imax; split <;> omega
    refine ⟨Int.le_trans e.1 h.1, fun y hy => ?_⟩
    rcases List.mem_cons.1 hy with rfl | hy
    · exact Int.le_trans e.2 h.1
    · exact h.2 y hy
theorem fold_max_mem (l : List Int) : ∀ x : Int, l.foldl imax x = x ∨ l.foldl imax x ∈ l := by
  induction l with
  | nil => intro x; exact .inl rfl
  | cons a l ih =>
    intro x
    show (l.foldl imax (imax x a)) = x ∨ l.foldl imax (imax x a) ∈ a :: l
    rcases ih (imax x a) with h | h
    · rw [h]
      unfold imax
      split
      · exact .inr List.mem_cons_self
      · exact .inl rfl
    · exact .inr (List.mem_cons_of_mem _ h)
theorem fold_min_mem (l : List Int) : ∀ x : Int, l.foldl imin x = x ∨ l.foldl imin x ∈ l := by
  induction l with
  | nil => intro x; exact .inl rfl
  | cons a l ih =>
    intro x
    show (l.foldl imin (imin x a)) = x ∨ l.foldl imin (imin x a) ∈ a :: l
    rcases ih (imin x a) with h | h
    · rw [h]
      unfold imin
      split
      · exact .inr List.mem_cons_self
      · exact .inl rfl
    · exact .inr (List.mem_cons_of_mem _ h)
theorem maxL_mem {l : List Int} (h : 0 < l.length) : maxL l ∈ l := by
  unfold maxL
  rcases fold_max_mem l (l.getD 0 0) with e | e
  · rw [e]; exact getD_mem h 0
  · exact e
theorem minL_mem {l : List Int} (h : 0 < l.length) : minL l ∈ l := by
  unfold minL
  rcases fold_min_mem l (l.getD 0 0) with e | e
  · rw [e]; exact getD_mem h 0
  · exact e
theorem all_lt {l : List Int} (h : 0 < l.length) (m : Int) : l.all (fun x => decide (x < m)) = decide (maxL l < m) := by
  by_cases e : maxL l < m
  · rw [decide_eq_true e, List.all_eq_true]
    intro x hx
    have := (fold_max_ge l (l.getD 0 0)).2 x hx
    unfold maxL at e
    exact decide_eq_true (by omega)
  · rw [decide_eq_false e, Bool.eq_false_iff]
    intro q
    rw [List.all_eq_true] at q
    exact e (of_decide_eq_true (q _ (maxL_mem h)))

/- bytes and numbers of 32 bits -/
theorem nat32 {a : Nat} (h : a < 4294967296) : (BitVec.ofInt 32 (a : Int)).toNat = a := by
  rw [BitVec.ofInt_natCast, BitVec.toNat_ofNat]; omega
theorem or_u32 {a b : Nat} (ha : a < 4294967296) (hb : b < 4294967296) : Go.bits .or .u32 (a : Int) (b : Int) = ((a ||| b : Nat) : Int) := by
  show IntKind.u32.wrap ((BitVec.ofInt 32 (a : Int) ||| BitVec.ofInt 32 (b : Int)).toNat : Int) = _
  rw [BitVec.toNat_or, nat32 ha, nat32 hb, wrap_u32]
  have := Nat.or_lt_two_pow (n := 32) ha hb
  omega
theorem xor_u32 {a b : Int} (ha : U32 a) (hb : U32 b) : Go.bits .xor .u32 a b = xorI a b := by
  obtain ⟨x, rfl⟩ : ∃ k : Nat, a = k := ⟨a.toNat, by have := ha.1; omega⟩
  obtain ⟨y, rfl⟩ : ∃ k : Nat, b = k := ⟨b.toNat, by have := hb.1; omega⟩
  have hx : x < 4294967296 := by have := ha.2; omega
  have hy : y < 4294967296 := by have := hb.2; omega
  show IntKind.u32.wrap ((BitVec.ofInt 32 (x : Int) ^^^ BitVec.ofInt 32 (y : Int)).toNat : Int) = _
  rw [BitVec.toNat_xor, nat32 hx, nat32 hy, wrap_u32]
  unfold xorI
  rw [Int.toNat_natCast, Int.toNat_natCast]
  have := Nat.xor_lt_two_pow (n := 32) hx hy
  omega
theorem xorI_rng {a b : Int} (ha : U32 a) (hb : U32 b) : U32 (xorI a b) := by
  have := Nat.xor_lt_two_pow (n := 32) (x := a.toNat) (y := b.toNat) (by have := ha.1; have := ha.2; omega) (by have := hb.1; have := hb.2; omega)
  unfold xorI U32; omega
theorem xorI_self (a b : Int) (ha : 0 ≤ a) : xorI (xorI a b) b = a := by
  unfold xorI
  rw [Int.toNat_natCast, Nat.xor_assoc, Nat.xor_self, Nat.xor_zero]; omega
theorem xorI_comm (a b : Int) : xorI a b = xorI b a := by unfold xorI; rw [Nat.xor_comm]
theorem or_add {a m : Nat} (k : Nat) (ha : a < 2 ^ k) (h : 2 ^ k * m + a < 4294967296) : Go.bits .or .u32 (a : Int) ((2 ^ k * m : Nat) : Int) = ((2 ^ k * m + a : Nat) : Int) := by
  rw [or_u32 (by omega) (by omega), Nat.or_comm, ← Nat.two_pow_add_eq_or_of_lt ha]
theorem num4_or {a b c d : Int} (ha : U8 a) (hb : U8 b) (hc : U8 c) (hd : U8 d) :
    Go.bits .or .u32 (Go.bits .or .u32 (Go.bits .or .u32 (IntKind.u32.wrap a) (IntKind.u32.wrap (IntKind.u32.wrap b * (2 : Int) ^ Min.min (Int.toNat (8 : Int)) IntKind.u32.bits))) (IntKind.u32.wrap (IntKind.u32.wrap c * (2 : Int) ^ Min.min (Int.toNat (16 : Int)) IntKind.u32.bits))) (IntKind.u32.wrap (IntKind.u32.wrap d * (2 : Int) ^ Min.min (Int.toNat (24 : Int)) IntKind.u32.bits)) = a + 256 * b + 65536 * c + 16777216 * d := by
  obtain ⟨x, rfl⟩ : ∃ k : Nat, a = k := ⟨a.toNat, by have := ha.1; omega⟩
  obtain ⟨y, rfl⟩ : ∃ k : Nat, b = k := ⟨b.toNat, by have := hb.1; omega⟩
  obtain ⟨z, rfl⟩ : ∃ k : Nat, c = k := ⟨c.toNat, by have := hc.1; omega⟩
  obtain ⟨u, rfl⟩ : ∃ k : Nat, d = k := ⟨d.toNat, by have := hd.1; omega⟩
  unfold U8 at *
  have w : ∀ k : Nat, k < 256 → IntKind.u32.wrap (k : Int) = k := fun k h => by rw [wrap_u32]; omega
  have e8 : (2 : Int) ^ Min.min (Int.toNat (8 : Int)) IntKind.u32.bits = 256 := by decide
  have e16 : (2 : Int) ^ Min.min (Int.toNat (16 : Int)) IntKind.u32.bits = 65536 := by decide
  have e24 : (2 : Int) ^ Min.min (Int.toNat (24 : Int)) IntKind.u32.bits = 16777216 := by decide
  rw [e8, e16, e24, w x (by omega), w y (by omega), w z (by omega), w u (by omega)]
  have f8 : IntKind.u32.wrap ((y : Int) * 256) = ((2 ^ 8 * y : Nat) : Int) := by rw [wrap_u32]; omega
  have f16 : IntKind.u32.wrap ((z : Int) * 65536) = ((2 ^ 16 * z : Nat) : Int) := by rw [wrap_u32]; omega
  have f24 : IntKind.u32.wrap ((u : Int) * 16777216) = ((2 ^ 24 * u : Nat) : Int) := by rw [wrap_u32]; omega
  rw [f8, f16, f24, or_add 8 (by omega) (by omega), or_add 16 (by omega) (by omega), or_add 24 (by omega) (by omega)]
  omega
theorem num4_sum {a b c d : Int} (ha : U8 a) (hb : U8 b) (hc : U8 c) (hd : U8 d) :
    IntKind.u32.wrap (IntKind.u32.wrap (IntKind.u32.wrap (IntKind.u32.wrap a + IntKind.u32.wrap (256 * IntKind.u32.wrap b)) + IntKind.u32.wrap (65536 * IntKind.u32.wrap c)) + IntKind.u32.wrap (16777216 * IntKind.u32.wrap d)) = a + 256 * b + 65536 * c + 16777216 * d := by
  unfold U8 at *
  simp only [wrap_u32]
  omega
theorem num4_rng {b : List Int} (hb : BLs b) {k : Nat} (h : k + 4 ≤ b.length) : U32 (num4 b k) := by
  have h0 := hb _ (getD_mem (show k < b.length by omega) 0)
  have h1 := hb _ (getD_mem (show k + 1 < b.length by omega) 0)
  have h2 := hb _ (getD_mem (show k + 2 < b.length by omega) 0)
  have h3 := hb _ (getD_mem (show k + 3 < b.length by omega) 0)
  unfold num4; unfold U8 at *; unfold U32
  omega

/- parts of lists of bytes -/
theorem tail_eq {b : List Int} {j : Int} (k : Nat) (hj : j = k) : List.take ((b.length : Int) - j).toNat (List.drop j.toNat b) = b.drop k := by
  subst hj
  rw [Int.toNat_natCast]
  apply List.take_of_length_le
  rw [List.length_drop]; omega
theorem getD_drop' {b : List Int} (k i : Nat) : (b.drop k).getD i 0 = b.getD (k + i) 0 := by
  rw [List.getD_eq_getElem?_getD, List.getD_eq_getElem?_getD, List.getElem?_drop]
theorem num4_drop (b : List Int) (k : Nat) : num4R (b.drop k) = r1 (num4 b k) := by
  unfold num4R num4
  simp only [getD_drop']
  rfl
theorem wnum4_drop {b : List Int} (hb : BLs b) {k : Nat} (h : k + 4 ≤ b.length) : WNum4 (b.drop k) :=
  ⟨fun x hx => hb x (List.mem_of_mem_drop hx), by rw [List.length_drop]; omega⟩
theorem byteOf_id {a : Int} (ha : U8 a) : byteOf a = a := by unfold byteOf; unfold U8 at ha; omega
theorem map_byteOf : ∀ {xs : List Int}, BLs xs → xs.map byteOf = xs
  | [], _ => rfl
  | x :: xs, hx => by
    rw [List.map_cons, byteOf_id (hx x List.mem_cons_self), map_byteOf fun z hz => hx z (List.mem_cons_of_mem _ hz)]
theorem tileS_eq : strBytes { data := #[(84 : UInt8), (73 : UInt8), (76 : UInt8), (69 : UInt8)] } = [84, 73, 76, 69] := by decide
theorem head_eq {b : List Int} (hb : BLs b) : decide (List.map byteOf (List.take ((4 : Int) - (0 : Int)).toNat (List.drop (Int.toNat (0 : Int)) b)) = strBytes { data := #[(84 : UInt8), (73 : UInt8), (76 : UInt8), (69 : UInt8)] }) = decide (b.take 4 = [84, 73, 76, 69]) := by
  apply decide_eq_decide.2
  rw [tileS_eq]
  show List.map byteOf (b.take 4) = _ ↔ _
  rw [map_byteOf fun z hz => hb z (List.mem_of_mem_take hz)]
theorem set_mid {α : Type} {P R : List α} {i : Nat} (h : P.length = i) (z v : α) : (P ++ z :: R).set i v = P ++ v :: R := by
  subst h
  rw [List.set_append_right _ _ (Nat.le_refl _), Nat.sub_self]; rfl
theorem decL_succ (b : List Int) (n i : Nat) (p : Int) : decL b (n + 1) i p = xorI p (num4 b (14 + 4 * i)) :: decL b n (i + 1) (xorI p (num4 b (14 + 4 * i))) := rfl
theorem decL_len (b : List Int) : ∀ (n i : Nat) (p : Int), (decL b n i p).length = n
  | 0, _, _ => rfl
  | n + 1, i, p => by rw [decL_succ, List.length_cons, decL_len b n]
theorem decL_rng {b : List Int} (hb : BLs b) : ∀ (n i : Nat) (p : Int), U32 p → 14 + 4 * (i + n) ≤ b.length → ∀ x ∈ decL b n i p, U32 x
  | 0, _, _, _, _, x, h => by cases h
  | n + 1, i, p, hp, hl, x, h => by
    have hx := xorI_rng hp (num4_rng hb (show 14 + 4 * i + 4 ≤ b.length by omega))
    rw [decL_succ] at h
    rcases List.mem_cons.1 h with rfl | h
    · exact hx
    · exact decL_rng hb n (i + 1) _ hx (by omega) x h
theorem wrap_small {n : Int} (h : U8 n) : IntKind.i64.wrap n = n ∧ IntKind.i64.wrap (n * n) = n * n ∧ IntKind.i64.wrap (14 + IntKind.i64.wrap (IntKind.i64.wrap (4 * n) * n)) = 14 + 4 * n * n := by
  obtain ⟨h1, h2⟩ := h
  have a : n * n ≤ 255 * 255 := Int.mul_le_mul (by omega) (by omega) (by omega) (by omega)
  have b : 0 ≤ n * n := Int.mul_nonneg h1 h1
  refine ⟨wi ⟨by omega, by omega⟩, wi ⟨by omega, by omega⟩, ?_⟩
  rw [wi (x := 4 * n) ⟨by omega, by omega⟩, Int.mul_assoc, wi (x := 4 * (n * n)) ⟨by omega, by omega⟩, wi ⟨by omega, by omega⟩]

/- encoding -/
theorem wrap_u8 (x : Int) : IntKind.u8.wrap x = x % 256 := by simp [IntKind.wrap, IntKind.bits, IntKind.signed]
theorem word_ref {x : Int} (h : U32 x) : [IntKind.u8.wrap (x.tmod 256), IntKind.u8.wrap ((IntKind.u32.wrap (x.tdiv 256)).tmod 256), IntKind.u8.wrap ((IntKind.u32.wrap (x.tdiv 65536)).tmod 256), IntKind.u8.wrap (IntKind.u32.wrap (x.tdiv 16777216))] = bytes4 x := by
  obtain ⟨h1, h2⟩ := h
  unfold bytes4
  simp only [wrap_u8, wrap_u32]
  rw [Int.tdiv_eq_ediv_of_nonneg h1, Int.tdiv_eq_ediv_of_nonneg h1, Int.tdiv_eq_ediv_of_nonneg h1, Int.tmod_eq_emod_of_nonneg h1, Int.tmod_eq_emod_of_nonneg (by omega), Int.tmod_eq_emod_of_nonneg (by omega)]
  have a : x % 256 % 256 = x % 256 := by omega
  have b : x / 256 % 4294967296 % 256 % 256 = x / 256 % 256 := by omega
  have c : x / 65536 % 4294967296 % 256 % 256 = x / 65536 % 256 := by omega
  have d : x / 16777216 % 4294967296 % 256 = x / 16777216 % 256 := by omega
  rw [a, b, c, d]
theorem put8 {x : Int} (h : U32 x) : IntKind.u8.wrap (x.fdiv ((2 : Int) ^ Min.min (Int.toNat (8 : Int)) IntKind.u32.bits)) = x / 256 % 256 := by
  have e : (2 : Int) ^ Min.min (Int.toNat (8 : Int)) IntKind.u32.bits = 256 := by decide
  rw [e, wrap_u8, Int.fdiv_eq_ediv_of_nonneg _ (by omega)]
theorem put16 {x : Int} (h : U32 x) : IntKind.u8.wrap (x.fdiv ((2 : Int) ^ Min.min (Int.toNat (16 : Int)) IntKind.u32.bits)) = x / 65536 % 256 := by
  have e : (2 : Int) ^ Min.min (Int.toNat (16 : Int)) IntKind.u32.bits = 65536 := by decide
  rw [e, wrap_u8, Int.fdiv_eq_ediv_of_nonneg _ (by omega)]
theorem put24 {x : Int} (h : U32 x) : IntKind.u8.wrap (x.fdiv ((2 : Int) ^ Min.min (Int.toNat (24 : Int)) IntKind.u32.bits)) = x / 16777216 % 256 := by
  have e : (2 : Int) ^ Min.min (Int.toNat (24 : Int)) IntKind.u32.bits = 16777216 := by decide
  rw [e, wrap_u8, Int.fdiv_eq_ediv_of_nonneg _ (by omega)]
theorem enc_init (m : Nat) (f r b0 b1 b2 b3 b4 b5 b6 b7 : Int) :
    (((((((((([] ++ [84, 73, 76, 69] ++ List.drop ((0 : Nat) + [(84 : Int), 73, 76, 69].length) (List.replicate (14 + m) (0 : Int))).set ((0 : Nat) + Int.toNat (4 : Int)) f).set ((0 : Nat) + Int.toNat (5 : Int)) r).set ((0 : Nat) + Int.toNat (6 : Int) + Int.toNat (0 : Int)) b0).set ((0 : Nat) + Int.toNat (6 : Int) + Int.toNat (1 : Int)) b1).set ((0 : Nat) + Int.toNat (6 : Int) + Int.toNat (2 : Int)) b2).set ((0 : Nat) + Int.toNat (6 : Int) + Int.toNat (3 : Int)) b3).set ((0 : Nat) + Int.toNat (10 : Int) + Int.toNat (0 : Int)) b4).set ((0 : Nat) + Int.toNat (10 : Int) + Int.toNat (1 : Int)) b5).set ((0 : Nat) + Int.toNat (10 : Int) + Int.toNat (2 : Int)) b6).set ((0 : Nat) + Int.toNat (10 : Int) + Int.toNat (3 : Int)) b7 = [84, 73, 76, 69, f, r, b0, b1, b2, b3, b4, b5, b6, b7] ++ List.replicate m 0 := by
  rw [← List.replicate_append_replicate]; rfl
theorem enc_step {P : List Int} {i k : Nat} (h : P.length = i) (a b c d : Int) :
    (((((P ++ List.replicate (4 + k) (0 : Int)).set (0 + ((i : Nat) : Int).toNat + Int.toNat (0 : Int)) a).set (0 + ((i : Nat) : Int).toNat + Int.toNat (1 : Int)) b).set (0 + ((i : Nat) : Int).toNat + Int.toNat (2 : Int)) c).set (0 + ((i : Nat) : Int).toNat + Int.toNat (3 : Int)) d) = P ++ [a, b, c, d] ++ List.replicate k 0 := by
  rw [Int.toNat_natCast, Nat.zero_add, ← List.replicate_append_replicate]
  subst h
  show (((((P ++ (0 :: 0 :: 0 :: 0 :: List.replicate k (0 : Int))).set (P.length + 0) a).set (P.length + 1) b).set (P.length + 2) c).set (P.length + 3) d) = _
  rw [List.set_append_right _ _ (by omega), List.set_append_right _ _ (by omega), List.set_append_right _ _ (by omega), List.set_append_right _ _ (by omega)]
  simp
theorem encL_cons (p x : Int) (xs : List Int) : encL p (x :: xs) = bytes4 (xorI x p) ++ encL x xs := rfl
theorem encL_len : ∀ (l : List Int) (p : Int), (encL p l).length = 4 * l.length
  | [], _ => rfl
  | x :: xs, p => by rw [encL_cons, List.length_append, encL_len xs, List.length_cons]; unfold bytes4; simp; omega
theorem good_facts {t : Ti} (h : goodT t = true) : 0 ≤ t.1 ∧ t.1 ≤ 5 ∧ 1 ≤ rootI t.2.2.2.length ∧ rootI t.2.2.2.length ≤ 32 ∧ rootI t.2.2.2.length * rootI t.2.2.2.length = t.2.2.2.length ∧ 1 ≤ t.2.2.2.length ∧ t.2.2.2.length ≤ 1024 ∧ lowT t = true := by
  unfold goodT at h
  simp only [Bool.and_eq_true, decide_eq_true_eq] at h
  obtain ⟨⟨⟨h1, h2⟩, h3⟩, h4⟩ := h
  obtain ⟨r1, r2, r3⟩ := root_rng h3
  have := sq_bd r1 r2
  exact ⟨h1, h2, r1, r2, r3, by omega, by omega, h4⟩
end Go.Lift

/- Tiles of a sea. Own work. -/
set_option linter.unusedVariables false
set_option linter.unusedSimpArgs false
namespace Go.Lift
theorem check_ok {n : Int} {s : Se} (h : (checkI n s).2 = 0) : goodC n = true ∧ (s.1.length : Int) = cellsI n ∧ (s.2.1.length : Int) = cellsI n ∧ (s.2.2.1.length : Int) = cellsI n ∧ (s.2.2.2.1.length : Int) = 2 * cellsI n := by
  unfold checkI at h
  split at h
  · exact absurd h (by decide)
  rename_i h0
  split at h
  · exact absurd h (by decide)
  rename_i h1
  split at h
  · exact absurd h (by decide)
  rename_i h2
  split at h
  · exact absurd h (by decide)
  rename_i h3
  split at h
  · exact absurd h (by decide)
  rename_i h4
  refine ⟨?_, by omega, by omega, by omega, by omega⟩
  cases hg : goodC n with
  | true => rfl
  | false => exact absurd (cells_bad hg) h0
theorem depthQ_w (w a : Int) : W64 (depthQ w a) := by
  unfold depthQ
  split
  · unfold W64; decide
  · exact divQF_w _ _
theorem wrap_rng (x : Int) : I64 (IntKind.i64.wrap x) := by
  unfold I64
  have : IntKind.i64.wrap x = x % 18446744073709551616 ∨ IntKind.i64.wrap x = x % 18446744073709551616 - 18446744073709551616 ∧ 9223372036854775808 ≤ x % 18446744073709551616 := by
    show (if (true && decide (x % 18446744073709551616 ≥ 9223372036854775808)) = true then x % 18446744073709551616 - 18446744073709551616 else x % 18446744073709551616) = _ ∨ (if (true && decide (x % 18446744073709551616 ≥ 9223372036854775808)) = true then x % 18446744073709551616 - 18446744073709551616 else x % 18446744073709551616) = _ ∧ _
    by_cases q : 9223372036854775808 ≤ x % 18446744073709551616
    · rw [if_pos (by simpa using q)]; exact .inr ⟨rfl, q⟩
    · rw [if_neg (by simpa using q)]; exact .inl rfl
  have h2 : ¬ 9223372036854775808 ≤ x % 18446744073709551616 → IntKind.i64.wrap x = x % 18446744073709551616 := fun q => this.resolve_right fun r => q r.2
  by_cases q : 9223372036854775808 ≤ x % 18446744073709551616
  · have h3 : IntKind.i64.wrap x = x % 18446744073709551616 - 18446744073709551616 := by
      show (if (true && decide (x % 18446744073709551616 ≥ 9223372036854775808)) = true then x % 18446744073709551616 - 18446744073709551616 else x % 18446744073709551616) = _
      rw [if_pos (by simpa using q)]
    omega
  · have := h2 q
    omega
theorem round_rng (x : Nat) : I64 (roundI x).1 := by
  unfold roundI
  split
  · split
    · exact wrap_rng _
    · exact wrap_rng _
  · split
    · exact ⟨by decide, by decide⟩
    · exact ⟨by decide, by decide⟩
theorem area_rng (n c : Int) : I64 (areaI n c) ∧ 0 ≤ areaI n c := by
  unfold areaI
  split
  · have := round_rng (mulQ (mulQ (spanQ n c) halfR) unitArea)
    unfold imax I64 at *
    split <;> omega
  · exact ⟨⟨by decide, by decide⟩, by decide⟩
theorem tileF_eq {n : Int} {s : Se} {f m : Nat} (hm : n * n = m) {L : List Int} (hL : L = (List.range m).map fun k => cellB n s (f * m + k)) : ((f : Int), minL L, maxL L, L) = tileF n s f := by
  unfold tileF
  rw [hm, Int.toNat_natCast, hL]
theorem range_map_succ {α : Type} (g : Nat → α) (k : Nat) : (List.range (k + 1)).map g = (List.range k).map g ++ [g k] := by
  rw [List.range_succ, List.map_append]; rfl
end Go.Lift

/- Tiles there and back. Own work. -/
set_option linter.unusedVariables false
set_option linter.unusedSimpArgs false
namespace Go.Lift
theorem getD_app {A L : List Int} {k : Nat} (h : A.length = k) (j : Nat) : (A ++ L).getD (k + j) 0 = L.getD j 0 := by
  subst h
  rw [List.getD_eq_getElem?_getD, List.getD_eq_getElem?_getD, List.getElem?_append_right (by omega)]
  congr 2; omega
theorem num4_bytes {x : Int} (h : U32 x) : x % 256 + 256 * (x / 256 % 256) + 65536 * (x / 65536 % 256) + 16777216 * (x / 16777216 % 256) = x := by
  unfold U32 at h; omega
theorem num4_app {A B : List Int} {k : Nat} (h : A.length = k) {x : Int} (hx : U32 x) : num4 (A ++ (bytes4 x ++ B)) k = x := by
  unfold num4
  have e := getD_app (L := bytes4 x ++ B) h
  have e0 : (A ++ (bytes4 x ++ B)).getD k 0 = (bytes4 x ++ B).getD 0 0 := e 0
  rw [e0, e 1, e 2, e 3]
  exact num4_bytes hx
theorem xorI_back (x p : Int) (hx : 0 ≤ x) : xorI p (xorI x p) = x := by rw [xorI_comm, xorI_self x p hx]
theorem decL_encL : ∀ (rest : List Int) (H D : List Int) (i : Nat) (p : Int), H.length = 14 → D.length = 4 * i → (∀ x ∈ rest, U32 x) → U32 p → decL (H ++ (D ++ encL p rest)) rest.length i p = rest
  | [], _, _, _, _, _, _, _, _ => rfl
  | x :: xs, H, D, i, p, hH, hD, hr, hp => by
    have hx := hr x List.mem_cons_self
    have e : num4 (H ++ (D ++ encL p (x :: xs))) (14 + 4 * i) = xorI x p := by
      rw [encL_cons, ← List.append_assoc]
      exact num4_app (by rw [List.length_append, hH, hD]) (xorI_rng hx hp)
    show decL _ (xs.length + 1) i p = _
    rw [decL_succ, e, xorI_back x p hx.1]
    congr 1
    have ih := decL_encL xs H (D ++ bytes4 (xorI x p)) (i + 1) x hH (by rw [List.length_append, hD]; show _ + 4 = _; omega) (fun y hy => hr y (List.mem_cons_of_mem _ hy)) hx
    rw [encL_cons]
    rw [List.append_assoc] at ih
    exact ih
theorem bytes4_B (x : Int) : BLs (bytes4 x) := by
  intro y hy
  unfold bytes4 at hy
  simp only [List.mem_cons, List.not_mem_nil, or_false] at hy
  unfold U8
  omega
theorem BLs_app {a b : List Int} (ha : BLs a) (hb : BLs b) : BLs (a ++ b) := fun x hx => (List.mem_append.1 hx).elim (ha x) (hb x)
theorem encL_B : ∀ (l : List Int) (p : Int), BLs (encL p l)
  | [], _ => fun x hx => by cases hx
  | x :: xs, p => BLs_app (bytes4_B _) (encL_B xs x)
theorem encT_B {t : Ti} (h : goodT t = true) : BLs (encT t) := by
  obtain ⟨f0, f5, r1, r2, -⟩ := good_facts h
  unfold encT
  refine BLs_app ?_ (BLs_app (bytes4_B _) (BLs_app (bytes4_B _) (encL_B _ _)))
  intro x hx
  simp only [List.mem_cons, List.not_mem_nil, or_false] at hx
  unfold U8
  omega
theorem encT_len (t : Ti) : (encT t).length = 14 + 4 * t.2.2.2.length := by
  unfold encT
  simp only [List.length_append, encL_len, List.length_cons, List.length_nil]
  have b : ∀ x, (bytes4 x).length = 4 := fun x => rfl
  rw [b, b]; omega

theorem decode_encode {t : Ti} (ht : TiOk t) (h : goodT t = true) : decodeT (encT t) = (t, 0) := by
  obtain ⟨f0, f5, r1, r2, r3, l1, l2, -⟩ := good_facts h
  obtain ⟨hf, hle, hmo, hce⟩ := ht
  have hlen := encT_len t
  have g4 : (encT t).getD 4 0 = t.1 := rfl
  have g5 : (encT t).getD 5 0 = rootI t.2.2.2.length := rfl
  have gt : (encT t).take 4 = [84, 73, 76, 69] := rfl
  have n6 : num4 (encT t) 6 = t.2.1 := num4_app (A := [84, 73, 76, 69, t.1, rootI t.2.2.2.length]) rfl hle
  have n10 : num4 (encT t) 10 = t.2.2.1 := by
    have e : encT t = ([84, 73, 76, 69, t.1, rootI t.2.2.2.length] ++ bytes4 t.2.1) ++ (bytes4 t.2.2.1 ++ encL 0 t.2.2.2) := by
      unfold encT; rw [List.append_assoc]
    rw [e]; exact num4_app rfl hmo
  have nd : decL (encT t) t.2.2.2.length 0 0 = t.2.2.2 := by
    have e : encT t = ([84, 73, 76, 69, t.1, rootI t.2.2.2.length] ++ bytes4 t.2.1 ++ bytes4 t.2.2.1) ++ ([] ++ encL 0 t.2.2.2) := by
      unfold encT; simp only [List.append_assoc, List.nil_append]
    rw [e]
    exact decL_encL t.2.2.2 _ [] 0 0 rfl rfl hce ⟨Int.le_refl 0, by decide⟩
  have hm : (rootI t.2.2.2.length * rootI t.2.2.2.length).toNat = t.2.2.2.length := by rw [r3]; exact Int.toNat_natCast _
  unfold decodeT
  rw [if_neg (by omega), gt, g4, g5, if_neg (by rintro (q | q | q | q); exact q rfl; omega; omega; omega), Int.mul_assoc, r3, if_neg (by omega), if_neg (by omega), n6, n10, Int.toNat_natCast, nd, if_pos h]

theorem bytes_num {b : List Int} (hb : BLs b) {k : Nat} (h : k + 4 ≤ b.length) : bytes4 (num4 b k) = [b.getD k 0, b.getD (k + 1) 0, b.getD (k + 2) 0, b.getD (k + 3) 0] := by
  have h0 := hb _ (getD_mem (show k < b.length by omega) 0)
  have h1 := hb _ (getD_mem (show k + 1 < b.length by omega) 0)
  have h2 := hb _ (getD_mem (show k + 2 < b.length by omega) 0)
  have h3 := hb _ (getD_mem (show k + 3 < b.length by omega) 0)
  unfold bytes4 num4
  unfold U8 at *
  congr 1
  · omega
  congr 1
  · omega
  congr 1
  · omega
  congr 1
  omega
theorem drop4 {b : List Int} {k : Nat} (h : k + 4 ≤ b.length) : b.drop k = [b.getD k 0, b.getD (k + 1) 0, b.getD (k + 2) 0, b.getD (k + 3) 0] ++ b.drop (k + 4) := by
  rw [drop_step (show k < b.length by omega) 0, drop_step (show k + 1 < b.length by omega) 0, drop_step (show k + 1 + 1 < b.length by omega) 0, drop_step (show k + 1 + 1 + 1 < b.length by omega) 0]
  rfl
theorem encL_decL {b : List Int} (hb : BLs b) : ∀ (n i : Nat) (p : Int), b.length = 14 + 4 * (i + n) → encL p (decL b n i p) = b.drop (14 + 4 * i)
  | 0, i, p, h => by rw [List.drop_eq_nil_of_le (by omega)]; rfl
  | n + 1, i, p, h => by
    have hn := num4_rng hb (show 14 + 4 * i + 4 ≤ b.length by omega)
    rw [decL_succ, encL_cons, xorI_comm p, xorI_self _ _ hn.1, encL_decL hb n (i + 1) _ (by omega), bytes_num hb (by omega), drop4 (k := 14 + 4 * i) (by omega)]
    rfl
theorem decode_cases (b : List Int) : (decodeT b).2 = 0 ∧ 14 ≤ b.length ∧ b.take 4 = [84, 73, 76, 69] ∧ 1 ≤ b.getD 5 0 ∧ b.getD 5 0 ≤ 32 ∧ (b.length : Int) = 14 + 4 * (b.getD 5 0 * b.getD 5 0) ∧ (decodeT b).1 = (b.getD 4 0, num4 b 6, num4 b 10, decL b (b.getD 5 0 * b.getD 5 0).toNat 0 0) ∧ goodT (decodeT b).1 = true
    ∨ ((decodeT b).2 = 31 ∨ (decodeT b).2 = 30 ∨ (decodeT b).2 = 3) ∧ (decodeT b).1 = zeroT := by
  unfold decodeT
  split
  · exact .inr ⟨.inl rfl, rfl⟩
  rename_i h0
  split
  · exact .inr ⟨.inr (.inl rfl), rfl⟩
  rename_i h1
  split
  · exact .inr ⟨.inl rfl, rfl⟩
  rename_i h2
  split
  · exact .inr ⟨.inr (.inr rfl), rfl⟩
  rename_i h3
  split
  · rename_i h4
    rw [Int.mul_assoc] at h2 h3
    have q1 : b.take 4 = [84, 73, 76, 69] := Classical.byContradiction fun q => h1 (.inl q)
    exact .inl ⟨rfl, by omega, q1, by omega, by omega, by omega, rfl, h4⟩
  · exact .inr ⟨.inr (.inl rfl), rfl⟩
theorem encode_decode {b : List Int} (hb : BLs b) (h : (decodeT b).2 = 0) : goodT (decodeT b).1 = true ∧ TiOk (decodeT b).1 ∧ encT (decodeT b).1 = b := by
  rcases decode_cases b with ⟨_, h14, ht, n1, n2, hl, e, hg⟩ | ⟨q, _⟩
  · refine ⟨hg, ?_, ?_⟩
    · rw [e]
      have h4 := hb _ (getD_mem (show 4 < b.length by omega) 0)
      have sq := sq_bd n1 n2
      refine ⟨⟨by unfold U8 at h4; dsimp only; omega, by unfold U8 at h4; dsimp only; omega⟩, num4_rng hb (by omega), num4_rng hb (by omega), decL_rng hb _ _ _ ⟨Int.le_refl 0, by decide⟩ (by omega)⟩
    · rw [e]
      have sq := sq_bd n1 n2
      have rs := root_sq n1 n2
      obtain ⟨m, hm⟩ : ∃ m : Nat, b.getD 5 0 * b.getD 5 0 = m := ⟨(b.getD 5 0 * b.getD 5 0).toNat, by omega⟩
      rw [hm] at hl rs ⊢
      rw [Int.toNat_natCast]
      unfold encT
      dsimp only
      rw [decL_len, rs, encL_decL hb m 0 0 (by omega), bytes_num hb (by omega), bytes_num hb (by omega)]
      have hd : b = b.take 4 ++ b.drop 4 := (List.take_append_drop 4 b).symm
      have d4 : b.drop 4 = b.getD 4 0 :: b.getD 5 0 :: b.drop 6 := by rw [drop_step (show 4 < b.length by omega) 0, drop_step (show 5 < b.length by omega) 0]
      have d6 := drop4 (b := b) (k := 6) (by omega)
      have d10 := drop4 (b := b) (k := 10) (by omega)
      rw [ht, d4, d6, d10] at hd
      exact hd.symm
  · rcases q with q | q | q <;> rw [q] at h <;> cases h
theorem decode_err {b : List Int} (h : (decodeT b).2 ≠ 0) : ((decodeT b).2 = 31 ∨ (decodeT b).2 = 30 ∨ (decodeT b).2 = 3) ∧ (decodeT b).1 = zeroT := by
  rcases decode_cases b with q | q
  · exact absurd q.1 h
  · exact q
theorem encode_2 (t : Ti) : goodT t = true ∧ encodeR t = (encT t, 0, ()) ∨ goodT t = false ∧ encodeR t = ([], 1, ()) := by
  unfold encodeR
  cases h : goodT t
  · exact .inr ⟨rfl, rfl⟩
  · exact .inl ⟨rfl, rfl⟩
theorem take_all (l : List Int) : List.take l.length (List.drop 0 l) = l := by rw [List.drop_zero, List.take_of_length_le (Nat.le_refl _)]

/- cut, longer -/
theorem decode_cut {t : Ti} (h : goodT t = true) {k : Nat} (hk : k < (encT t).length) : (decodeT ((encT t).take k)).2 = 31 := by
  obtain ⟨f0, f5, r1, r2, r3, l1, l2, -⟩ := good_facts h
  have hlen := encT_len t
  have hl : ((encT t).take k).length = k := by rw [List.length_take]; omega
  unfold decodeT
  by_cases q : k < 14
  · rw [if_pos (by omega)]
  · have gd : ∀ j, j < 14 → ((encT t).take k).getD j 0 = (encT t).getD j 0 := by
      intro j hj
      rw [List.getD_eq_getElem?_getD, List.getD_eq_getElem?_getD, List.getElem?_take_of_lt (by omega)]
    have tk : ((encT t).take k).take 4 = [84, 73, 76, 69] := by
      rw [List.take_take, Nat.min_eq_left (by omega)]; rfl
    have g4 : ((encT t).take k).getD 4 0 = t.1 := gd 4 (by omega)
    have g5 : ((encT t).take k).getD 5 0 = rootI t.2.2.2.length := gd 5 (by omega)
    rw [if_neg (by omega), tk, g4, g5, if_neg (by rintro (q | q | q | q); exact q rfl; omega; omega; omega), Int.mul_assoc, r3, if_pos (by omega)]
theorem decode_more {t : Ti} (h : goodT t = true) (c : Int) : (decodeT (encT t ++ [c])).2 = 3 := by
  obtain ⟨f0, f5, r1, r2, r3, l1, l2, -⟩ := good_facts h
  have hlen := encT_len t
  have hl : (encT t ++ [c]).length = 15 + 4 * t.2.2.2.length := by rw [List.length_append, hlen]; show _ + 1 = _; omega
  have tk : (encT t ++ [c]).take 4 = [84, 73, 76, 69] := rfl
  have g4 : (encT t ++ [c]).getD 4 0 = t.1 := rfl
  have g5 : (encT t ++ [c]).getD 5 0 = rootI t.2.2.2.length := rfl
  unfold decodeT
  rw [if_neg (by omega), tk, g4, g5, if_neg (by rintro (q | q | q | q); exact q rfl; omega; omega; omega), Int.mul_assoc, r3, if_neg (by omega), if_pos (by omega)]
theorem nat8 {a : Nat} (h : a < 256) : (BitVec.ofInt 8 (a : Int)).toNat = a := by
  rw [BitVec.ofInt_natCast, BitVec.toNat_ofNat]; omega
theorem xor_u8 {a b : Int} (ha : U8 a) (hb : U8 b) : Go.bits .xor .u8 a b = xorI a b ∧ U8 (xorI a b) := by
  obtain ⟨x, rfl⟩ : ∃ k : Nat, a = k := ⟨a.toNat, by have := ha.1; omega⟩
  obtain ⟨y, rfl⟩ : ∃ k : Nat, b = k := ⟨b.toNat, by have := hb.1; omega⟩
  have hx : x < 256 := by have := ha.2; omega
  have hy : y < 256 := by have := hb.2; omega
  have := Nat.xor_lt_two_pow (n := 8) hx hy
  constructor
  · show IntKind.u8.wrap ((BitVec.ofInt 8 (x : Int) ^^^ BitVec.ofInt 8 (y : Int)).toNat : Int) = _
    rw [BitVec.toNat_xor, nat8 hx, nat8 hy, wrap_u8]
    unfold xorI
    rw [Int.toNat_natCast, Int.toNat_natCast]
    omega
  · unfold xorI U8
    rw [Int.toNat_natCast, Int.toNat_natCast]
    omega
theorem xorI_ne {a b : Int} (ha : 0 ≤ a) (hb : 0 ≤ b) (h : b ≠ 0) : xorI a b ≠ a := by
  intro q
  have := xorI_self b a hb
  rw [xorI_comm b a, q] at this
  have z : xorI a a = 0 := by unfold xorI; rw [Nat.xor_self]; rfl
  omega
end Go.Lift

/- Depths: not too great, not negative; tiles of seas have bytes. Own work. -/
set_option linter.unusedVariables false
set_option linter.unusedSimpArgs false
namespace Go.Lift
open Ieee
theorem one_val : valR oneR = 2 ^ U74 := by decide +kernel
theorem rnd_one63 : rnd 1 63 = two63 := by decide +kernel
theorem div_core {m n i' j' more e u : Nat} (hx : m * 2 ^ i' ≤ 2 ^ (63 + u)) (hy : 2 ^ u ≤ n * 2 ^ j') (he : e + i' = 63 + more + j') : m * 2 ^ more ≤ n * 2 ^ e := by
  have h1 : m * 2 ^ more * 2 ^ i' ≤ 2 ^ (63 + u) * 2 ^ more := by
    rw [Nat.mul_right_comm]; exact Nat.mul_le_mul_right _ hx
  have h2 : 2 ^ (63 + u) * 2 ^ more ≤ n * 2 ^ e * 2 ^ i' := by
    rw [Nat.mul_assoc, ← Nat.pow_add 2 e i', he, Nat.pow_add 2 (63 + more) j', Nat.mul_left_comm]
    have : 2 ^ (63 + u) * 2 ^ more = 2 ^ (63 + more) * 2 ^ u := by rw [← Nat.pow_add, ← Nat.pow_add]; congr 1; omega
    rw [this]
    exact Nat.mul_le_mul_left _ hy
  exact le_pow (Nat.le_trans h1 h2)
theorem div_le_63 {x y : Nat} (hx : rungOf x ≤ two63) (hy : oneR ≤ rungOf y) (hf : rungOf y < infR) : isN (divQF x y) = false ∧ rungOf (divQF x y) ≤ two63 ∧ sgn (divQF x y) = (sgn x ^^ sgn y) := by
  have hxf : rungOf x < infR := by unfold two63 at hx; unfold infR; omega
  have hv := valR_le.2 hx
  have hw := valR_le.2 hy
  rw [val_63] at hv
  rw [one_val] at hw
  unfold valR at hv hw
  have i1 := placeOf_ge (rungOf x)
  have j1 := placeOf_ge (rungOf y)
  have hn : magOf (rungOf y) ≠ 0 := by
    intro e
    rw [e, Nat.zero_mul] at hw
    have := Nat.two_pow_pos U74
    omega
  have hrx := read_num hxf
  have hry := read_num hf
  generalize magOf (rungOf x) = m at *
  generalize placeOf (rungOf x) = i at *
  generalize magOf (rungOf y) = n at *
  generalize placeOf (rungOf y) = j at *
  generalize hmore : 54 + n.log2 - m.log2 = more
  have hq : (double.read x).quotient (double.fractionBits + 2) (double.read y) = some (.number (sgn x ^^ sgn y) (2 * (m * 2 ^ more / n) + (m * 2 ^ more % n != 0).toNat) (i - j - (more : Int) - 1)) := by
    rw [hrx, hry]
    simp only [Datum.quotient]
    rw [if_neg hn]
    have e1 : double.fractionBits + 2 + n.log2 - m.log2 = more := hmore
    rw [e1, Nat.shiftLeft_eq]
  have e : divQF x y = double.word (sgn x ^^ sgn y) (rnd (2 * (m * 2 ^ more / n) + (m * 2 ^ more % n != 0).toNat) (i - j - (more : Int) - 1)) := by
    unfold divQF
    show (((double.read x).quotient (double.fractionBits + 2) (double.read y)).map double.write).getD QN = _
    rw [hq]
    show double.write (.number _ _ _) = _
    rw [write_num]
  obtain ⟨g1, g2, g3, g4⟩ := word_le (s := sgn x ^^ sgn y) (rnd_le (2 * (m * 2 ^ more / n) + (m * 2 ^ more % n != 0).toNat) (i - j - (more : Int) - 1))
  rw [e, g3]
  refine ⟨g1, ?_, g4⟩
  by_cases hm : m = 0
  · subst hm
    rw [Nat.zero_mul, Nat.zero_div, Nat.zero_mod]
    show rnd 0 _ ≤ _
    rw [rnd_zero]; exact Nat.zero_le _
  have lm2 := (Nat.le_log2 hm (k := m.log2)).1 (Nat.le_refl _)
  have ln := (Nat.log2_lt hn (k := n.log2 + 1)).1 (Nat.lt_succ_self _)
  have e63 : (9223372036854775808 : Nat) = 2 ^ 63 := by decide
  have hu : ∃ u : Nat, u = U74 ∧ u = 1074 := ⟨_, rfl, rfl⟩
  obtain ⟨u, hu1, hu2⟩ := hu
  rw [← hu1, e63, ← Nat.pow_add] at hv
  rw [← hu1] at hw
  have k1 : i + 1074 + m.log2 ≤ 63 + 1074 := by
    have q : 2 ^ (m.log2 + (i + 1074).toNat) ≤ 2 ^ (63 + u) := by
      rw [Nat.pow_add]; exact Nat.le_trans (Nat.mul_le_mul_right _ lm2) hv
    have := (Nat.pow_le_pow_iff_right (a := 2) (by decide)).1 q
    omega
  have k2 : (0 : Int) ≤ j + n.log2 := by
    have q : 2 ^ u < 2 ^ (n.log2 + 1 + (j + 1074).toNat) := by
      rw [Nat.pow_add 2 (n.log2 + 1)]; exact Nat.lt_of_le_of_lt hw (Nat.mul_lt_mul_of_pos_right ln (Nat.two_pow_pos _))
    have := (Nat.pow_lt_pow_iff_right (a := 2) (by decide)).1 q
    omega
  obtain ⟨k, hk⟩ : ∃ k : Nat, (k : Int) = 63 - i + j + more := ⟨(63 - i + j + (more : Int)).toNat, by omega⟩
  have hD := div_core (more := more) (e := k) hv hw (by omega)
  have hc := quot_core (Nat.pos_of_ne_zero hn) hD
  have hr := rnd_mono' (i - j - (more : Int) - 1) hc
  have hs : 2 * 2 ^ k = 1 * 2 ^ (k + 1) := by rw [Nat.pow_succ]; omega
  have hp : i - j - (more : Int) - 1 = 63 - ((k + 1 : Nat) : Int) := by omega
  rw [hs, hp, rnd_scale, rnd_one63] at hr
  rw [hp]
  exact hr
theorem depth_small {w a : Int} (hw : I64 w) (ha : I64 a) : isN (depthQ w a) = false ∧ sgn (depthQ w a) = false ∧ rungOf (depthQ w a) ≤ two63 := by
  unfold depthQ
  split
  · decide
  rename_i h
  obtain ⟨e1, b1, f1⟩ := ofI_word (n := w) (by omega) hw
  obtain ⟨e2, b2, f2⟩ := ofI_word (n := a) (by omega) ha
  have o1 := rnd_mono' (m := 1) (m' := a.toNat) 0 (by omega)
  have o2 : rnd 1 0 = oneR := by decide +kernel
  have t1 := rnd63 (k := w.toNat) (by unfold I64 at hw; omega)
  obtain ⟨p1, p2, -⟩ := word_parts (s := false) (r := rnd w.toNat 0) (by unfold two63 at t1; unfold sw; omega)
  obtain ⟨q1, q2, -⟩ := word_parts (s := false) (r := rnd a.toNat 0) (by unfold infR at f2; unfold sw; omega)
  have := div_le_63 (x := ofI w) (y := ofI a) (by rw [e1, p1]; exact t1) (by rw [e2, q1]; omega) (by rw [e2, q1]; exact f2)
  rw [e1, e2, p2, q2] at this
  rw [e1, e2]
  exact ⟨this.1, this.2.2, this.2.1⟩
theorem to32_small {w a : Int} (hw : I64 w) (ha : I64 a) : 0 ≤ to32 (depthQ w a) ∧ to32 (depthQ w a) < 2139095040 := by
  obtain ⟨h1, h2, h3⟩ := depth_small hw ha
  have hb : rungOf (depthQ w a) < 5183643170835005440 := by unfold two63 at h3; omega
  obtain ⟨k, hk, e⟩ := single_small hb
  unfold to32
  rw [h1, h2, if_neg (by decide), if_neg (by decide), if_neg (by omega), e]
  omega
theorem cell_small {n : Int} {s : Se} (hs : SeaOk s) (c : Nat) (hc : c < s.2.1.length) : 0 ≤ cellB n s c ∧ cellB n s c < 2139095040 :=
  to32_small (hs.2.1 _ (getD_mem hc 0)) (area_rng _ _).1
theorem minL_le {l : List Int} {x : Int} (h : x ∈ l) : minL l ≤ x := (fold_min_le l _).2 x h
theorem maxL_ge {l : List Int} {x : Int} (h : x ∈ l) : x ≤ maxL l := (fold_max_ge l _).2 x h
/-- A tile of a sea can be. -/
theorem tile_good {n : Int} {s : Se} (hs : SeaOk s) (h : (checkI n s).2 = 0) {f : Nat} (hf : f < 6) : goodT (tileF n s f) = true ∧ TiOk (tileF n s f) ∧ ((tileF n s f).2.2.2.length : Int) = n * n := by
  obtain ⟨hg, -, hwl, -, -⟩ := check_ok h
  obtain ⟨n1, n2⟩ := goodC_iff.1 hg
  have sq := sq_bd n1 n2
  rw [cells_good hg] at hwl
  obtain ⟨m, hm⟩ : ∃ m : Nat, n * n = m := ⟨(n * n).toNat, by omega⟩
  have rs := root_sq n1 n2
  rw [hm] at sq hwl rs
  have fm : f * m ≤ 5 * m := Nat.mul_le_mul_right m (by omega)
  rw [← tileF_eq (n := n) (s := s) (f := f) hm rfl, hm]
  generalize hL : ((List.range m).map fun k => cellB n s (f * m + k)) = L
  have hl : L.length = m := by rw [← hL, List.length_map, List.length_range]
  have hx : ∀ x ∈ L, 0 ≤ x ∧ x < 2139095040 := by
    intro x hx
    rw [← hL] at hx
    obtain ⟨k, hk, rfl⟩ := List.mem_map.1 hx
    exact cell_small hs _ (by have := List.mem_range.1 hk; omega)
  have hp : 0 < L.length := by omega
  have h1 := hx _ (minL_mem hp)
  have h2 := hx _ (maxL_mem hp)
  refine ⟨?_, ⟨⟨by dsimp only; omega, by dsimp only; omega⟩, ⟨h1.1, by dsimp only; omega⟩, ⟨h2.1, by dsimp only; omega⟩, fun x q => ⟨(hx x q).1, by have := (hx x q).2; omega⟩⟩, by dsimp only; omega⟩
  unfold goodT lowT
  dsimp only
  rw [hl, rs, decide_eq_true (p := (0 : Int) ≤ f) (by omega), decide_eq_true (p := (f : Int) ≤ 5) (by omega), decide_eq_true (p := n ≠ 0) (by omega), all_lt hp, decide_eq_true (p := maxL L < 2139095040) h2.2, decide_eq_true rfl, decide_eq_true rfl]
  rfl
theorem tile_cell {n : Int} {s : Se} {f m : Nat} (hm : n * n = m) {k : Nat} (hk : k < m) : (tileF n s f).2.2.2.getD k 0 = cellB n s (f * m + k) := by
  rw [← tileF_eq (n := n) (s := s) (f := f) hm rfl]
  show ((List.range m).map fun k => cellB n s (f * m + k)).getD k 0 = _
  rw [List.getD_eq_getElem?_getD, List.getElem?_map, List.getElem?_range hk]; rfl
theorem tiles_at {n : Int} {s : Se} {f : Nat} (hf : f < 6) (d : Ti) : ((List.range 6).map (tileF n s)).getD f d = tileF n s f := by
  rw [List.getD_eq_getElem?_getD, List.getElem?_map, List.getElem?_range hf]; rfl
theorem any_step {α : Type} (p : α → Bool) {l : List α} {i : Nat} (h : i < l.length) (d : α) : (l.take (i + 1)).any p = ((l.take i).any p || p (l.getD i d)) := by
  rw [take_step h d, List.any_append]; simp
theorem tiles_err {n : Int} {s : Se} (h : (checkI n s).2 ≠ 0) : tilesR n s = ([], (checkI n s).2, ()) := by
  show ((tilesT n s).1, (tilesT n s).2, ()) = _
  unfold tilesT; rw [if_pos h]
theorem tiles_ok {n : Int} {s : Se} (h : (checkI n s).2 = 0) : tilesR n s = ((List.range 6).map (tileF n s), 0, ()) := by
  show ((tilesT n s).1, (tilesT n s).2, ()) = _
  unfold tilesT; rw [if_neg (by rw [h]; decide)]
end Go.Lift

/- Floats of 32 bits near to floats of 64 bits. Own work. -/
set_option linter.unusedVariables false
set_option linter.unusedSimpArgs false
namespace Go.Lift
open Ieee
def W32p (u : Int) : Prop := 0 ≤ u ∧ u < 2139095040
def from32 (u : Int) : Nat := double.write (single.read u.toNat)
def from32R (u : Int) : Nat × Unit := r1 (from32 u)
def fbits32R (u : Int) : Nat × Unit := r1 u.toNat
def mag1 (k : Nat) : Nat := if k < 8388608 then k else 8388608 + k % 8388608
def place1 (k : Nat) : Int := if k < 8388608 then -149 else -149 + ((k / 8388608 - 1 : Nat) : Int)
theorem single_read {k : Nat} (h : k < 2139095040) : single.read k = .number false (mag1 k) (place1 k) := by
  have e1 : single.signWeight = 2147483648 := by decide
  have e2 : single.infRung = 2139095040 := by decide
  have e3 : single.binade = 8388608 := by decide
  have e4 : single.leastPlace = -149 := by decide
  unfold Format.read mag1 place1
  rw [e1, e2, e3, e4, Nat.mod_eq_of_lt (show k < 2147483648 by omega), Nat.div_eq_of_lt (show k < 2147483648 by omega)]
  dsimp only
  by_cases q : k < 8388608
  · rw [if_pos q, if_pos q, if_pos q]; rfl
  · rw [if_neg q, if_neg q, if_neg q, if_pos h]; rfl
theorem from32_word {u : Int} (h : W32p u) : from32 u = double.word false (rnd (mag1 u.toNat) (place1 u.toNat)) ∧ rnd (mag1 u.toNat) (place1 u.toNat) < infR := by
  obtain ⟨h1, h2⟩ := h
  have hk : u.toNat < 2139095040 := by omega
  constructor
  · unfold from32
    rw [single_read hk]
    show double.nearest false _ _ = _
    rw [nearest_eq]
  · have hm : mag1 u.toNat ≤ 16777216 := by unfold mag1; split <;> omega
    have hp : place1 u.toNat ≤ 104 := by unfold place1; split <;> omega
    have := rnd_mono (m := mag1 u.toNat) (m' := 16777216) (p := place1 u.toNat) (p' := 104) (by
      unfold leV
      rw [Int.min_eq_left hp, Int.sub_self]
      show mag1 u.toNat * 2 ^ 0 ≤ _
      rw [Nat.pow_zero, Nat.mul_one]
      exact Nat.le_trans hm (Nat.le_mul_of_pos_right _ (Nat.two_pow_pos _)))
    have e : rnd 16777216 104 < infR := by decide +kernel
    omega
theorem from32_conv {u : Int} (h : W32p u) {r : Nat} (hr : F2F .f32 u.toNat .f64 r) : r = from32 u := by
  have hk : u.toNat < 2139095040 := by have := h.1; have := h.2; omega
  obtain ⟨e1, e2⟩ := from32_word h
  unfold F2F at hr
  rw [if_neg (by decide), show FloatKind.f32.format.read u.toNat = _ from single_read hk] at hr
  dsimp only at hr
  have e3 : FloatKind.f64.format.write (.number false (mag1 u.toNat) (place1 u.toNat)) = from32 u := by
    unfold from32; rw [single_read hk]; rfl
  have e4 : (double.read (from32 u)).isInfinity = false := by
    rw [e1]
    obtain ⟨w1, w2, -⟩ := word_parts (s := false) (r := rnd (mag1 u.toNat) (place1 u.toNat)) (by unfold infR at e2; unfold sw; omega)
    rw [read_num (by rw [w1]; exact e2)]; rfl
  rw [e3, show (FloatKind.f64.format.read (from32 u)).isInfinity = false from e4, if_neg (by decide)] at hr
  exact hr
theorem mask31 {a : Int} (h : W32p a) : Go.bits .andNot .u32 a 2147483648 = a := by
  obtain ⟨x, rfl⟩ : ∃ k : Nat, a = k := ⟨a.toNat, by have := h.1; omega⟩
  have hx : x < 2147483648 := by have := h.2; omega
  show IntKind.u32.wrap ((BitVec.ofInt 32 (x : Int) &&& ~~~ BitVec.ofInt 32 ((2147483648 : Nat) : Int)).toNat : Int) = _
  have e3 : ~~~ BitVec.ofInt 32 ((2147483648 : Nat) : Int) = BitVec.ofNat 32 (2 ^ 31 - 1) := by decide
  rw [e3, BitVec.toNat_and, nat32 (by omega), BitVec.toNat_ofNat, show (2 ^ 31 - 1) % 2 ^ 32 = 2 ^ 31 - 1 by decide, Nat.and_two_pow_sub_one_eq_mod, wrap_u32]
  omega

/- from below -/
theorem mag_lt (r : Nat) : magOf r < 2 ^ 53 := by
  have e : (2 : Nat) ^ 53 = 9007199254740992 := by decide
  rw [e]
  unfold magOf
  split
  · unfold bin at *; omega
  · have := Nat.mod_lt r (show 0 < bin by decide); unfold bin at *; omega
theorem rnd_low : rnd 1 (-64) = 959 * bin := by decide +kernel
theorem div_ge_64 {x y : Nat} (hx : oneR ≤ rungOf x) (hx2 : rungOf x ≤ two63) (hy : oneR ≤ rungOf y) (hy2 : rungOf y ≤ two63) : 959 * bin ≤ rungOf (divQF x y) := by
  have hxf : rungOf x < infR := by unfold two63 at hx2; unfold infR; omega
  have hyf : rungOf y < infR := by unfold two63 at hy2; unfold infR; omega
  have x1 := valR_le.2 hx
  have y1 := valR_le.2 hy
  have y2 := valR_le.2 hy2
  rw [one_val] at x1 y1
  rw [val_63] at y2
  unfold valR at x1 y1 y2
  have i1 := placeOf_ge (rungOf x)
  have j1 := placeOf_ge (rungOf y)
  have hm : magOf (rungOf x) ≠ 0 := by
    intro e; rw [e, Nat.zero_mul] at x1
    have := Nat.two_pow_pos U74
    omega
  have hn : magOf (rungOf y) ≠ 0 := by
    intro e; rw [e, Nat.zero_mul] at y1
    have := Nat.two_pow_pos U74
    omega
  have ml := (Nat.log2_lt hm (k := 53)).2 (mag_lt _)
  have hrx := read_num hxf
  have hry := read_num hyf
  generalize magOf (rungOf x) = m at *
  generalize placeOf (rungOf x) = i at *
  generalize magOf (rungOf y) = n at *
  generalize placeOf (rungOf y) = j at *
  generalize hmore : 54 + n.log2 - m.log2 = more
  have hq : (double.read x).quotient (double.fractionBits + 2) (double.read y) = some (.number (sgn x ^^ sgn y) (2 * (m * 2 ^ more / n) + (m * 2 ^ more % n != 0).toNat) (i - j - (more : Int) - 1)) := by
    rw [hrx, hry]
    simp only [Datum.quotient]
    rw [if_neg hn]
    have e1 : double.fractionBits + 2 + n.log2 - m.log2 = more := hmore
    rw [e1, Nat.shiftLeft_eq]
  have e : divQF x y = double.word (sgn x ^^ sgn y) (rnd (2 * (m * 2 ^ more / n) + (m * 2 ^ more % n != 0).toNat) (i - j - (more : Int) - 1)) := by
    unfold divQF
    show (((double.read x).quotient (double.fractionBits + 2) (double.read y)).map double.write).getD QN = _
    rw [hq]
    show double.write (.number _ _ _) = _
    rw [write_num]
  obtain ⟨g1, g2, g3, g4⟩ := word_le (s := sgn x ^^ sgn y) (rnd_le (2 * (m * 2 ^ more / n) + (m * 2 ^ more % n != 0).toNat) (i - j - (more : Int) - 1))
  rw [e, g3]
  have lm := (Nat.log2_lt hm (k := m.log2 + 1)).1 (Nat.lt_succ_self _)
  have lm2 := (Nat.le_log2 hm (k := m.log2)).1 (Nat.le_refl _)
  have ln := (Nat.log2_lt hn (k := n.log2 + 1)).1 (Nat.lt_succ_self _)
  have ln2 := (Nat.le_log2 hn (k := n.log2)).1 (Nat.le_refl _)
  have e63 : (9223372036854775808 : Nat) = 2 ^ 63 := by decide
  have hu : ∃ u : Nat, u = U74 ∧ u = 1074 := ⟨_, rfl, rfl⟩
  obtain ⟨u, hu1, hu2⟩ := hu
  rw [← hu1] at x1
  rw [← hu1, e63, ← Nat.pow_add] at y2
  have k1 : (0 : Int) ≤ i + m.log2 := by
    have q : 2 ^ u < 2 ^ (m.log2 + 1 + (i + 1074).toNat) := by
      rw [Nat.pow_add 2 (m.log2 + 1)]; exact Nat.lt_of_le_of_lt x1 (Nat.mul_lt_mul_of_pos_right lm (Nat.two_pow_pos _))
    have := (Nat.pow_lt_pow_iff_right (a := 2) (by decide)).1 q
    omega
  have k2 : j + n.log2 ≤ 63 := by
    have q : 2 ^ (n.log2 + (j + 1074).toNat) ≤ 2 ^ (63 + u) := by
      rw [Nat.pow_add]; exact Nat.le_trans (Nat.mul_le_mul_right _ ln2) y2
    have := (Nat.pow_le_pow_iff_right (a := 2) (by decide)).1 q
    omega
  -- the quotient has 53 digits and more
  obtain ⟨b, hb⟩ : ∃ b : Nat, b + n.log2 + 1 = m.log2 + more := ⟨m.log2 + more - n.log2 - 1, by omega⟩
  have hb53 : 53 ≤ b := by omega
  have hQ : 2 ^ b ≤ m * 2 ^ more / n := by
    rw [Nat.le_div_iff_mul_le (Nat.pos_of_ne_zero hn)]
    have a1 : 2 ^ b * n ≤ 2 ^ b * 2 ^ (n.log2 + 1) := Nat.mul_le_mul_left _ (Nat.le_of_lt ln)
    have a2 : 2 ^ (m.log2 + more) ≤ m * 2 ^ more := by rw [Nat.pow_add]; exact Nat.mul_le_mul_right _ lm2
    rw [← Nat.pow_add, show b + (n.log2 + 1) = m.log2 + more by omega] at a1
    exact Nat.le_trans a1 a2
  have hQ2 : 1 * 2 ^ (b + 1) ≤ 2 * (m * 2 ^ more / n) + (m * 2 ^ more % n != 0).toNat := by
    rw [Nat.pow_succ]; omega
  have hr := rnd_mono' (i - j - (more : Int) - 1) hQ2
  have hp : i - j - (more : Int) - 1 = (i - j - (more : Int) - 1 + ((b + 1 : Nat) : Int)) - ((b + 1 : Nat) : Int) := by omega
  rw [hp, rnd_scale] at hr
  have hlow := rnd_mono (m := 1) (m' := 1) (p := -64) (p' := i - j - (more : Int) - 1 + ((b + 1 : Nat) : Int)) (by
    have hle : (-64 : Int) ≤ i - j - (more : Int) - 1 + ((b + 1 : Nat) : Int) := by omega
    unfold leV
    rw [Int.min_eq_left hle, Int.sub_self]
    show 1 * 2 ^ 0 ≤ _
    rw [Nat.one_mul, Nat.one_mul]
    exact Nat.two_pow_pos _)
  rw [rnd_low] at hlow
  rw [hp]
  exact Nat.le_trans hlow hr
end Go.Lift

/- What a tile tells is near to the depth. Own work. -/
set_option linter.unusedVariables false
set_option linter.unusedSimpArgs false
namespace Go.Lift
open Ieee
theorem single_normal {r : Nat} (hb : bin ≤ r) (h : r < 5183643170835005440) (hp : -149 ≤ placeOf r + 29) : single.write (double.read r) = (placeOf r + 178).toNat * 8388608 + cutE (magOf r) 29 := by
  obtain ⟨k, hk, e⟩ := single_small h
  rw [e]
  have hi : rungOf r = r := rung_lo (by omega)
  have hsg := (small_sgn (r := r) (by omega)).1
  rw [read_num (by rw [hi]; unfold infR; omega), hi, hsg] at e
  have e : single.nearest false (magOf r) (placeOf r) = k := e
  obtain ⟨q1, q2, q3⟩ := rung_parts (r := r) hb
  have h0 : magOf r ≠ 0 := by unfold bin at q2; omega
  unfold Format.nearest at e
  rw [if_neg h0] at e
  dsimp only at e
  rw [cut_eq false _ _ (by rw [Nat.shiftLeft_eq]; exact Nat.mul_ne_zero h0 (by have := Nat.two_pow_pos (placeOf r - max (placeOf r + (magOf r).log2 - single.fractionBits) single.leastPlace).toNat; omega))] at e
  unfold Format.word at e
  rw [if_neg (by decide)] at e
  have hl : single.leastPlace = -149 := by decide
  have hf : single.fractionBits = 23 := rfl
  have hbn : single.binade = 8388608 := by decide
  have hir : single.infRung = 2139095040 := by decide
  have hlog : (magOf r).log2 = 52 := by
    have a := (Nat.log2_lt (n := magOf r) (k := 53) h0).2 (mag_lt r)
    have b := Nat.log2_lt (n := magOf r) (k := 52) h0
    rw [show (2 : Nat) ^ 52 = bin from rfl] at b
    omega
  rw [hl, hf, hbn, hir, Nat.shiftLeft_eq, hlog] at e
  have e3 : max (placeOf r + ((52 : Nat) : Int) - ((23 : Nat) : Int)) (-149) = placeOf r + 29 := by omega
  rw [e3] at e
  have e4 : (placeOf r - (placeOf r + 29)).toNat = 0 := by omega
  have e5 : (placeOf r + 29 - placeOf r).toNat = 29 := by omega
  have e6 : (placeOf r + 29 - -149).toNat = (placeOf r + 178).toNat := by omega
  rw [e4, e5, e6, Nat.pow_zero, Nat.mul_one] at e
  omega
theorem key_le (b : Nat) : keyOf' b ≤ rungOf b := by unfold keyOf'; split <;> omega
/-- The same number, its place in the bigger format. -/
theorem back_up {c : Nat} {p : Int} {k : Nat} (hc : 8388608 ≤ c) (hc2 : c ≤ 16777216) (hp : -178 ≤ p) (hp2 : p ≤ 75) (hk : k = (p + 178).toNat * 8388608 + c) :
    ∃ R, rnd (mag1 k) (place1 k) = R ∧ R < infR ∧ 0 < R ∧ p ≤ placeOf R ∧ magOf R * 2 ^ (placeOf R - p).toNat = c * 536870912 := by
  obtain ⟨P, rfl⟩ : ∃ P : Nat, p = (P : Int) - 178 := ⟨(p + 178).toNat, by omega⟩
  have hP : ((P : Int) - 178 + 178).toNat = P := by omega
  rw [hP] at hk
  refine ⟨(P + 896) * bin + c * 536870912, ?_, ?_, ?_, ?_⟩
  · by_cases q : c < 16777216
    · have m1 : mag1 k = c := by unfold mag1; rw [if_neg (by omega)]; omega
      have p1 : place1 k = (P : Int) - 149 := by unfold place1; rw [if_neg (by omega)]; omega
      have mR : magOf ((P + 896) * bin + c * 536870912) = c * 536870912 := by unfold magOf; rw [if_neg (by unfold bin; omega)]; unfold bin; omega
      have pR : placeOf ((P + 896) * bin + c * 536870912) = (P : Int) - 178 := by unfold placeOf; rw [if_neg (by unfold bin; omega)]; unfold bin; omega
      have hx := rnd_exact (r := (P + 896) * bin + c * 536870912) (by unfold bin infR; omega)
      rw [mR, pR] at hx
      rw [m1, p1, ← hx]
      have := rnd_scale c ((P : Int) - 149) 29
      rw [show (2 : Nat) ^ 29 = 536870912 by decide, show (P : Int) - 149 - ((29 : Nat) : Int) = (P : Int) - 178 by omega] at this
      exact this.symm
    · have q : c = 16777216 := by omega
      subst q
      have m1 : mag1 k = 8388608 := by unfold mag1; rw [if_neg (by omega)]; omega
      have p1 : place1 k = (P : Int) - 148 := by unfold place1; rw [if_neg (by omega)]; omega
      have mR : magOf ((P + 896) * bin + 16777216 * 536870912) = 4503599627370496 := by unfold magOf; rw [if_neg (by unfold bin; omega)]; unfold bin; omega
      have pR : placeOf ((P + 896) * bin + 16777216 * 536870912) = (P : Int) - 177 := by unfold placeOf; rw [if_neg (by unfold bin; omega)]; unfold bin; omega
      have hx := rnd_exact (r := (P + 896) * bin + 16777216 * 536870912) (by unfold bin infR; omega)
      rw [mR, pR] at hx
      rw [m1, p1, ← hx]
      have := rnd_scale 8388608 ((P : Int) - 148) 29
      rw [show (8388608 : Nat) * 2 ^ 29 = 4503599627370496 by decide, show (P : Int) - 148 - ((29 : Nat) : Int) = (P : Int) - 177 by omega] at this
      exact this.symm
  · unfold bin infR; omega
  · unfold bin; omega
  · by_cases q : c < 16777216
    · have mR : magOf ((P + 896) * bin + c * 536870912) = c * 536870912 := by unfold magOf; rw [if_neg (by unfold bin; omega)]; unfold bin; omega
      have pR : placeOf ((P + 896) * bin + c * 536870912) = (P : Int) - 178 := by unfold placeOf; rw [if_neg (by unfold bin; omega)]; unfold bin; omega
      rw [mR, pR, Int.sub_self]
      exact ⟨Int.le_refl _, by show _ * 2 ^ 0 = _; rw [Nat.pow_zero, Nat.mul_one]⟩
    · have q : c = 16777216 := by omega
      subst q
      have mR : magOf ((P + 896) * bin + 16777216 * 536870912) = 4503599627370496 := by unfold magOf; rw [if_neg (by unfold bin; omega)]; unfold bin; omega
      have pR : placeOf ((P + 896) * bin + 16777216 * 536870912) = (P : Int) - 177 := by unfold placeOf; rw [if_neg (by unfold bin; omega)]; unfold bin; omega
      rw [mR, pR, show ((P : Int) - 177 - ((P : Int) - 178)) = 1 by omega]
      exact ⟨by omega, by decide⟩
theorem gtr_not {z q : Nat} (hz : isN z = false) (hq : isN q = false) (hs : sgn q = false) (h : rungOf z ≤ rungOf q) : fcmp .gtr (double.order z q) = false := by
  rw [order_eq hz hq]
  have h1 := key_le z
  have h2 : keyOf' q = rungOf q := by unfold keyOf'; rw [hs]; rfl
  rw [h2]
  simp only [fcmp]
  rcases Int.lt_or_eq_of_le (show keyOf' z ≤ rungOf q by omega) with g | g
  · rw [Std.compare_eq_lt.2 g]; rfl
  · rw [g, Std.compare_self]; rfl
theorem gtr_pos {d : Nat} (hn : isN d = false) (hs : sgn d = false) (h : rungOf d ≠ 0) : fcmp .gtr (double.order d 0) = true := by
  rw [order_eq hn (by decide)]
  have e : keyOf' 0 = 0 := by decide
  have h2 : keyOf' d = rungOf d := by unfold keyOf'; rw [hs]; rfl
  rw [e, h2, show compare (rungOf d : Int) 0 = .gt from Std.compare_eq_gt.2 (by omega)]; rfl
def c24 : Nat := 4715268809856909312
theorem div_24 {d : Nat} (hb : bin ≤ rungOf d) (hf : rungOf d < infR) (hs : sgn d = false) : double.div d c24 = some (double.word false (rnd (magOf (rungOf d)) (placeOf (rungOf d) - 24))) := by
  have hc : double.read c24 = .number false 4503599627370496 (-28) := by decide
  obtain ⟨q1, q2, q3⟩ := rung_parts hb
  have h0 : magOf (rungOf d) ≠ 0 := by unfold bin at q2; omega
  have hlog : (magOf (rungOf d)).log2 = 52 := by
    have a := (Nat.log2_lt (n := magOf (rungOf d)) (k := 53) h0).2 (mag_lt _)
    have b := Nat.log2_lt (n := magOf (rungOf d)) (k := 52) h0
    rw [show (2 : Nat) ^ 52 = bin from rfl] at b
    omega
  have hl : Nat.log2 4503599627370496 = 52 := by decide
  unfold Format.div
  rw [read_num hf, hc, hs]
  unfold Datum.quotient
  dsimp only
  rw [if_neg (by decide), hlog, hl]
  have hm : double.fractionBits + 2 + 52 - 52 = 54 := by decide
  rw [hm, Nat.shiftLeft_eq]
  have e1 : magOf (rungOf d) * 2 ^ 54 / 4503599627370496 = magOf (rungOf d) * 4 := by
    rw [show (2 : Nat) ^ 54 = 4 * 4503599627370496 by decide, ← Nat.mul_assoc, Nat.mul_div_cancel _ (by decide)]
  have e2 : magOf (rungOf d) * 2 ^ 54 % 4503599627370496 = 0 := by
    rw [show (2 : Nat) ^ 54 = 4 * 4503599627370496 by decide, ← Nat.mul_assoc, Nat.mul_mod_left]
  rw [e1, e2]
  show some (double.nearest _ (2 * (magOf (rungOf d) * 4) + 0) _) = _
  rw [nearest_eq]
  have e3 := rnd_scale (magOf (rungOf d)) (placeOf (rungOf d) - 24) 3
  rw [show 2 * (magOf (rungOf d) * 4) + 0 = magOf (rungOf d) * 2 ^ 3 by omega, show placeOf (rungOf d) - -28 - ((54 : Nat) : Int) - 1 = placeOf (rungOf d) - 24 - ((3 : Nat) : Int) by omega, e3]
  rfl
theorem near_pos {d : Nat} (hw : W64 d) (hs : sgn d = false) (hb : 959 * bin ≤ rungOf d) (h63 : rungOf d ≤ two63) :
    (∀ z q, FRes .f64 (FloatKind.f64.format.sub (from32 (to32 d)) d) z → FRes .f64 (FloatKind.f64.format.div d c24) q → fcmp .gtr (double.order z q) = false ∧ fcmp .gtr (double.order (negF z) q) = false)
    ∧ fcmp .gtr (double.order d 0) = true ∧ fcmp .gtr (double.order (from32 (to32 d)) 0) = true := by
  have hN : isN d = false := by unfold isN; rw [decide_eq_false_iff_not]; unfold two63 at h63; unfold infR; omega
  have hlt : rungOf d < 5183643170835005440 := by unfold two63 at h63; omega
  have hf : rungOf d < infR := by unfold two63 at h63; unfold infR; omega
  have hb1 : bin ≤ rungOf d := by unfold bin at *; omega
  obtain ⟨q1, q2, q3⟩ := rung_parts hb1
  have hpl : placeOf (rungOf d) = -1074 + ((rungOf d / bin - 1 : Nat) : Int) := by unfold placeOf; rw [if_neg (by omega)]
  have hp1 : -116 ≤ placeOf (rungOf d) := by rw [hpl]; unfold bin at *; omega
  have hp2 : placeOf (rungOf d) ≤ 75 := by rw [hpl]; unfold two63 at h63; unfold bin at *; omega
  have hsw := single_normal hb1 hlt (by omega)
  have hd32 : double.read (rungOf d) = .number false (magOf (rungOf d)) (placeOf (rungOf d)) := by
    have hi : rungOf (rungOf d) = rungOf d := rung_lo (by omega)
    rw [read_num (by rw [hi]; exact hf), hi, (small_sgn (r := rungOf d) (by omega)).1]
  have ht : to32 d = ((placeOf (rungOf d) + 178).toNat * 8388608 + cutE (magOf (rungOf d)) 29 : Nat) := by
    unfold to32
    rw [hN, hs, if_neg (by decide), if_neg (by decide), if_neg (by omega), hsw]; omega
  have c1 : 8388608 ≤ cutE (magOf (rungOf d)) 29 := le_cutE (by unfold bin at q2; omega)
  have c2 : cutE (magOf (rungOf d)) 29 ≤ 16777216 := cutE_le (by unfold bin at q3; omega)
  obtain ⟨a1, a2⟩ := cutE_err (magOf (rungOf d)) 29
  have a2 := a2 (by omega)
  obtain ⟨R, r1, r2, r3, r4, r5⟩ := back_up c1 c2 (by omega) hp2 rfl
  have hu : W32p (to32 d) := by
    obtain ⟨k, hk, e⟩ := single_small hlt
    rw [ht]; rw [hsw] at e
    exact ⟨by omega, by omega⟩
  have hx : from32 (to32 d) = double.word false R := by
    rw [(from32_word hu).1, ht, Int.toNat_natCast, r1]
  obtain ⟨w1, w2, w3⟩ := word_parts (s := false) (r := R) (by unfold infR at r2; unfold sw; omega)
  have hxn : isN (double.word false R) = false := by unfold isN; rw [w1, decide_eq_false_iff_not]; omega
  have hq := div_24 hb1 hf hs
  rw [hx]
  refine ⟨?_, gtr_pos hN hs (by unfold bin at hb; omega), gtr_pos hxn w2 (by rw [w1]; omega)⟩
  intro z q hz hq2
  have hq2 : q = double.word false (rnd (magOf (rungOf d)) (placeOf (rungOf d) - 24)) := by
    unfold FRes at hq2
    rw [show FloatKind.f64.format.div d c24 = _ from hq] at hq2
    exact hq2
  generalize hc : cutE (magOf (rungOf d)) 29 = c at *
  generalize hM : magOf (rungOf d) = M at *
  generalize hp : placeOf (rungOf d) = p at *
  have hsub : double.sub (double.word false R) d = some (double.word (if (c * 536870912 : Int) - M = 0 then false && true else (c * 536870912 : Int) - M < 0) (rnd ((c * 536870912 : Int) - M).natAbs p)) := by
    unfold Format.sub
    rw [read_num (by rw [w1]; exact r2), w1, w2, read_num hf, hs, hM, hp]
    show ((Datum.number false (magOf R) (placeOf R)).sum (Datum.number true M p)).map double.write = _
    unfold Datum.sum
    dsimp only
    rw [Int.min_eq_right r4, Int.sub_self]
    have s1 : signed false (magOf R) (placeOf R - p).toNat = (c * 536870912 : Int) := by
      unfold signed; rw [if_neg (by decide), Nat.shiftLeft_eq, r5]; omega
    have s2 : signed true M (0 : Int).toNat = -(M : Int) := by
      unfold signed; rw [if_pos rfl]; rfl
    rw [s1, s2]
    show some (double.nearest _ _ _) = _
    rw [nearest_eq]
    rfl
  have hz : z = double.word (if (c * 536870912 : Int) - M = 0 then false && true else (c * 536870912 : Int) - M < 0) (rnd ((c * 536870912 : Int) - M).natAbs p) := by
    unfold FRes at hz
    rw [show FloatKind.f64.format.sub (double.word false R) d = _ from hsub] at hz
    exact hz
  obtain ⟨z1, z2, z3, z4⟩ := word_le (s := (if (c * 536870912 : Int) - M = 0 then false && true else (c * 536870912 : Int) - M < 0)) (rnd_le ((c * 536870912 : Int) - M).natAbs p)
  obtain ⟨y1, y2, y3, y4⟩ := word_le (s := false) (rnd_le M (p - 24))
  rw [← hz] at z1 z2 z3
  rw [← hq2] at y1 y3 y4
  have hT : ((c * 536870912 : Int) - M).natAbs ≤ 268435456 := by
    rw [show (2 : Nat) ^ 29 = 536870912 by decide] at a1 a2
    omega
  have hle : rungOf z ≤ rungOf q := by
    rw [z3, y3]
    refine rnd_mono ?_
    unfold leV
    rw [Int.min_eq_right (show p - 24 ≤ p by omega), show p - (p - 24) = 24 by omega, Int.sub_self]
    show _ * 2 ^ 24 ≤ M * 2 ^ 0
    rw [Nat.pow_zero, Nat.mul_one]
    exact Nat.le_trans (Nat.mul_le_mul_right _ hT) (Nat.le_trans (by decide) q2)
  refine ⟨gtr_not z1 y1 y4 hle, gtr_not (by rw [isN_negF z2]; exact z1) y1 y4 (by rw [(rung_negF z2).1]; exact hle)⟩
theorem near_depth {w a : Int} (hw : I64 w) (ha : I64 a) :
    (∀ z q, FRes .f64 (FloatKind.f64.format.sub (from32 (to32 (depthQ w a))) (depthQ w a)) z → FRes .f64 (FloatKind.f64.format.div (depthQ w a) c24) q → fcmp .gtr (double.order z q) = false ∧ fcmp .gtr (double.order (negF z) q) = false)
    ∧ fcmp .gtr (double.order (depthQ w a) 0) = fcmp .gtr (double.order (from32 (to32 (depthQ w a))) 0) := by
  by_cases h : w < 1 ∨ a < 1
  · have e : depthQ w a = 0 := by unfold depthQ; rw [if_pos h]
    rw [e]
    have t0 : to32 0 = 0 := by decide +kernel
    have f0 : from32 0 = 0 := by decide +kernel
    rw [t0, f0]
    refine ⟨?_, rfl⟩
    intro z q hz hq
    have s0 : double.sub 0 0 = some 0 := by decide +kernel
    have d0 : double.div 0 c24 = some 0 := by decide +kernel
    unfold FRes at hz hq
    rw [show FloatKind.f64.format.sub 0 0 = _ from s0] at hz
    rw [show FloatKind.f64.format.div 0 c24 = _ from d0] at hq
    have hz : z = 0 := hz
    have hq : q = 0 := hq
    rw [hz, hq]
    exact ⟨by decide, by decide⟩
  · obtain ⟨h1, h2, h3⟩ := depth_small hw ha
    have e : depthQ w a = divQF (ofI w) (ofI a) := by unfold depthQ; rw [if_neg h]
    obtain ⟨e1, b1, f1⟩ := ofI_word (n := w) (by omega) hw
    obtain ⟨e2, b2, f2⟩ := ofI_word (n := a) (by omega) ha
    have o2 : rnd 1 0 = oneR := by decide +kernel
    have x1 := rnd_mono' (m := 1) (m' := w.toNat) 0 (by omega)
    have y1 := rnd_mono' (m := 1) (m' := a.toNat) 0 (by omega)
    have x2 := rnd63 (k := w.toNat) (by unfold I64 at hw; omega)
    have y2 := rnd63 (k := a.toNat) (by unfold I64 at ha; omega)
    obtain ⟨p1, -, -⟩ := word_parts (s := false) (r := rnd w.toNat 0) (by unfold two63 at x2; unfold sw; omega)
    obtain ⟨q1, -, -⟩ := word_parts (s := false) (r := rnd a.toNat 0) (by unfold two63 at y2; unfold sw; omega)
    have hlo := div_ge_64 (x := ofI w) (y := ofI a) (by rw [e1, p1]; omega) (by rw [e1, p1]; exact x2) (by rw [e2, q1]; omega) (by rw [e2, q1]; exact y2)
    rw [← e] at hlo
    obtain ⟨n1, n2, n3⟩ := near_pos (depthQ_w w a) h2 hlo h3
    exact ⟨n1, n2.trans n3.symm⟩
end Go.Lift

/- Lengths of numbers. Own work. -/
set_option linter.unusedVariables false
set_option linter.unusedSimpArgs false
namespace Go.Lift
def lenI (m : Int) : Int := if m = 0 then 0 else (m.toNat.log2 : Int) + 1
def lenR (m : Int) : Int × Unit := r1 (lenI m)
/-- What is left over by m / 2^s: nothing, less than half, half, more. -/
def restI (m s : Nat) : Int := if m % 2 ^ s = 0 then 0 else if 2 * (m % 2 ^ s) < 2 ^ s then 1 else if 2 * (m % 2 ^ s) = 2 ^ s then 2 else 3
def downR (m s : Int) : Int × Int × Unit := ((m.toNat / 2 ^ s.toNat : Nat), restI m.toNat s.toNat, ())
def WDown (m s : Int) : Prop := 0 ≤ m ∧ m < 18446744073709551616 ∧ 1 ≤ s ∧ s ≤ 1099511627776 ∧ (s ≤ 63 ∨ m < 4611686018427387904)
def cutR (m s : Int) : Int × Unit := r1 ((cutE m.toNat s.toNat : Nat) : Int)
def smallI (m e p least inf : Int) : Int :=
  if m = 0 then 0 else
  min ((max (lenI m + e - (p + 1)) least - least) * 2 ^ p.toNat + (cutE (m.toNat * 2 ^ (e - max (lenI m + e - (p + 1)) least).toNat) (max (lenI m + e - (p + 1)) least - e).toNat : Nat)) inf
def smallR (m e p least inf : Int) : Int × Unit := r1 (smallI m e p least inf)
def WSmall (m e p least inf : Int) : Prop := 0 ≤ m ∧ (m < 4611686018427387904 ∨ m ≤ 9223372036854775808 ∧ e = 0 ∧ p = 52) ∧ -1074 ≤ e ∧ e ≤ 1000 ∧ 10 ≤ p ∧ p ≤ 52 ∧ -1074 ≤ least ∧ least ≤ 0 ∧ 0 ≤ inf ∧ inf ≤ 9218868437227405312
theorem len_rng {m : Int} (h0 : 0 < m) {k : Nat} (hk : m < 2 ^ k) : 1 ≤ lenI m ∧ lenI m ≤ k ∧ m.toNat < 2 ^ (lenI m).toNat := by
  obtain ⟨x, rfl⟩ : ∃ x : Nat, m = x := ⟨m.toNat, by omega⟩
  have hx : x ≠ 0 := by omega
  have hk : x < 2 ^ k := by
    have e : (2 : Int) ^ k = ((2 ^ k : Nat) : Int) := (Int.natCast_pow 2 k).symm
    rw [e] at hk; omega
  have h1 := (Nat.log2_lt hx).2 hk
  unfold lenI
  rw [if_neg (by omega), Int.toNat_natCast, show ((x.log2 : Int) + 1).toNat = x.log2 + 1 by omega]
  exact ⟨by omega, by omega, Nat.lt_log2_self⟩
theorem cutE_self (n d : Nat) : cutE n d ≤ n := cutE_le (Nat.le_mul_of_pos_right _ (Nat.two_pow_pos d))
def whatI (x : Nat) : Int := if rungOf x < infR then 0 else if rungOf x = infR then 1 else 2
def partsR (x : Nat) : Bool × Int × Int × Int × Unit := (sgn x, if rungOf x < infR then (magOf (rungOf x) : Int) else 0, if rungOf x < infR then placeOf (rungOf x) else 0, whatI x, ())
def WRef (w a : Int) : Prop := I64 w ∧ I64 a
def compR (f i : Int) (s t : Nat) : Nat × Unit := r1 (canonF (axisP f s t (i - 1).toNat))
def WComp (f i : Int) (s t : Nat) : Prop := 0 ≤ f ∧ f ≤ 5 ∧ 1 ≤ i ∧ i ≤ 3 ∧ W64 s ∧ W64 t
def greatR (m e : Int) : Bool × Unit := r1 (decide (9223372036854775808 < m * 2 ^ e.toNat))
def WGreat (m e : Int) : Prop := 0 ≤ m ∧ m < 9007199254740992 ∧ 0 ≤ e ∧ e ≤ 1000 ∧ (m = 0 ∨ 4503599627370496 ≤ m)
def wholeBR (g : Bool) (m : Int) : Int × Bool × Unit := if g = true ∧ m ≤ 9223372036854775808 then (-m, true, ()) else if g = true ∨ 9223372036854775808 ≤ m then (0, false, ()) else (m, true, ())
def WWhole (_ : Bool) (m : Int) : Prop := U64 m
end Go.Lift

/- Contracts of a seat, typed. Own work. -/
set_option linter.unusedVariables false
namespace Go.Lift
open Go.Proofs
def Ztab : List (Nat × TD) := [
  (2, ⟨.int .i64, 1, 8, [.int .i64 0], some (.int .i64)⟩),
  (3, ⟨.int .i64, 1, 8, [.int .i64 0], some (.int .i64)⟩),
  (4, ⟨.bool, 1, 1, [.bool false], some (.bool)⟩),
  (5, ⟨.int .u8, 1, 1, [.int .u8 0], some (.int .u8)⟩),
  (9, ⟨.str, 1, 16, [.string ⟨#[]⟩], none⟩),
  (32, ⟨.int .u32, 1, 4, [.int .u32 0], some (.int .u32)⟩),
  (33, ⟨.slice 32, 1, 24, [.slice none 0 0], some (.slice (.int .u32))⟩),
  (35, ⟨.struct [(0, 3), (1, 32), (2, 32), (3, 33)], 4, 40, [.int .i64 0, .int .u32 0, .int .u32 0, .slice none 0 0], some (.pair (.int .i64) (.pair (.int .u32) (.pair (.int .u32) (.slice (.int .u32)))))⟩),
  (37, ⟨.slice 5, 1, 24, [.slice none 0 0], some (.slice (.int .u8))⟩),
  (28, ⟨.int .i64, 1, 8, [.int .i64 0], some (.int .i64)⟩),
  (95, ⟨.int .u64, 1, 8, [.int .u64 0], some (.int .u64)⟩),
  (22, ⟨.slice 53, 1, 24, [.slice none 0 0], some (.slice (.flt .f64))⟩),
  (23, ⟨.slice 2, 1, 24, [.slice none 0 0], some (.slice (.int .i64))⟩),
  (25, ⟨.struct [(0, 22), (1, 23), (2, 23), (3, 22), (4, 2), (5, 3)], 6, 112, [.slice none 0 0, .slice none 0 0, .slice none 0 0, .slice none 0 0, .int .i64 0, .int .i64 0], some (.pair (.slice (.flt .f64)) (.pair (.slice (.int .i64)) (.pair (.slice (.int .i64)) (.pair (.slice (.flt .f64)) (.pair (.int .i64) (.int .i64))))))⟩),
  (27, ⟨.slice 35, 1, 24, [.slice none 0 0], some (.slice (.pair (.int .i64) (.pair (.int .u32) (.pair (.int .u32) (.slice (.int .u32))))))⟩),
  (53, ⟨.flt .f64, 1, 8, [.float .f64 0], some (.flt .f64)⟩),
  (88, ⟨.arr 4 3, 4, 32, [.int .i64 0, .int .i64 0, .int .i64 0, .int .i64 0], some (.arr 4 (.int .i64))⟩),
  (43, ⟨.int .u64, 1, 8, [.int .u64 0], some (.int .u64)⟩),
  (99, ⟨.flt .f32, 1, 4, [.float .f32 0], some (.flt .f32)⟩),
  (102, ⟨.struct [(0, 53), (1, 53), (2, 53)], 3, 24, [.float .f64 0, .float .f64 0, .float .f64 0], some (.pair (.flt .f64) (.pair (.flt .f64) (.flt .f64)))⟩),
  (103, ⟨.arr 4 102, 12, 96, [.float .f64 0, .float .f64 0, .float .f64 0, .float .f64 0, .float .f64 0, .float .f64 0, .float .f64 0, .float .f64 0, .float .f64 0, .float .f64 0, .float .f64 0, .float .f64 0], some (.arr 4 (.pair (.flt .f64) (.pair (.flt .f64) (.flt .f64))))⟩),
  (129, ⟨.arr 2 3, 2, 16, [.int .i64 0, .int .i64 0], some (.arr 2 (.int .i64))⟩),
  (139, ⟨.arr 4 129, 8, 64, [.int .i64 0, .int .i64 0, .int .i64 0, .int .i64 0, .int .i64 0, .int .i64 0, .int .i64 0, .int .i64 0], some (.arr 4 (.arr 2 (.int .i64)))⟩),
  (165, ⟨.arr 3 53, 3, 24, [.float .f64 0, .float .f64 0, .float .f64 0], some (.arr 3 (.flt .f64))⟩),
  (153, ⟨.arr 3 3, 3, 24, [.int .i64 0, .int .i64 0, .int .i64 0], some (.arr 3 (.int .i64))⟩),
  (175, ⟨.arr 3 153, 9, 72, [.int .i64 0, .int .i64 0, .int .i64 0, .int .i64 0, .int .i64 0, .int .i64 0, .int .i64 0, .int .i64 0, .int .i64 0], some (.arr 3 (.arr 3 (.int .i64)))⟩),
  (176, ⟨.arr 6 175, 54, 432, [.int .i64 0, .int .i64 0, .int .i64 0, .int .i64 0, .int .i64 0, .int .i64 0, .int .i64 0, .int .i64 0, .int .i64 0, .int .i64 0, .int .i64 0, .int .i64 0, .int .i64 0, .int .i64 0, .int .i64 0, .int .i64 0, .int .i64 0, .int .i64 0, .int .i64 0, .int .i64 0, .int .i64 0, .int .i64 0, .int .i64 0, .int .i64 0, .int .i64 0, .int .i64 0, .int .i64 0, .int .i64 0, .int .i64 0, .int .i64 0, .int .i64 0, .int .i64 0, .int .i64 0, .int .i64 0, .int .i64 0, .int .i64 0, .int .i64 0, .int .i64 0, .int .i64 0, .int .i64 0, .int .i64 0, .int .i64 0, .int .i64 0, .int .i64 0, .int .i64 0, .int .i64 0, .int .i64 0, .int .i64 0, .int .i64 0, .int .i64 0, .int .i64 0, .int .i64 0, .int .i64 0, .int .i64 0], some (.arr 6 (.arr 3 (.arr 3 (.int .i64))))⟩),
  (110, ⟨.slice 3, 1, 24, [.slice none 0 0], some (.slice (.int .i64))⟩)]
theorem Ztab_ok : tabB Tryz.prog Ztab = true := by kernel_rfl
theorem Zmixed : Tryz.prog.follows .mixedOrders = true := by kernel_rfl
def ZG : Globs := fun g => match g with | 2 => some ⟨.arr 6 (.arr 3 (.arr 3 (.int .i64))), framesL⟩ | _ => none

def Zq_math_Float64bits : Con := .det [.flt .f64] [.snap (.int .u64)] (fun _ => True) (fun x => bitsR x.1)
def Zq_math_Float64frombits : Con := .det [.int .u64] [.snap (.flt .f64)] (fun _ => True) (fun x => fromR x.1)
def Zq_math_sqrt : Con := .rel [.flt .f64] [.snap (.flt .f64)] (fun _ => True) (fun x r => sqrtP x.1 r) (fun x h => relF_ne (sqrtQ_q _) (sqrtQ_w _))
def Zq_raw_From : Con := .det [.int .u64] [.snap (.flt .f64)] (fun _ => True) (fun x => fromR x.1)
def Zq_raw_Bits : Con := .det [.flt .f64] [.snap (.int .u64)] (fun _ => True) (fun x => bitsR x.1)
def Zq_raw_Same : Con := .det [.flt .f64, .flt .f64] [.snap .bool] (fun _ => True) (fun x => sameR x.1 x.2.1)
def Zq_bits_quiet : Con := .det [] [.snap (.flt .f64)] (fun _ => True) (fun x => qnR)
def Zq_ref01_Quiet : Con := .det [] [.snap (.flt .f64)] (fun _ => True) (fun x => qnR)
def Zq_math_Abs : Con := .det [.flt .f64] [.snap (.flt .f64)] (fun x => W64 x.1) (fun x => absR x.1)
def Zq_math_IsNaN : Con := .det [.flt .f64] [.snap .bool] (fun _ => True) (fun x => nanR x.1)
def Zq_ref01_Mag : Con := .det [.flt .f64] [.snap (.int .u64)] (fun x => W64 x.1) (fun x => magR x.1)
def Zq_ref01_None : Con := .det [.flt .f64] [.snap .bool] (fun x => W64 x.1) (fun x => nanR x.1)
def Zq_ref01_Below : Con := .det [.flt .f64] [.snap .bool] (fun x => W64 x.1) (fun x => belowR x.1)
def Zq_bits_Canon : Con := .det [.flt .f64] [.snap (.flt .f64)] (fun _ => True) (fun x => canonR x.1)
def Zq_ref01_Canon : Con := .det [.flt .f64] [.snap (.flt .f64)] (fun x => W64 x.1) (fun x => canonR x.1)
def Zq_sum_quiet : Con := .det [.flt .f64] [.snap (.flt .f64)] (fun _ => True) (fun x => quietR x.1)
def Zq_ref05_quieted : Con := .det [.flt .f64] [.snap (.flt .f64)] (fun x => W64 x.1) (fun x => quietR x.1)
def Zq_sum_magnitude : Con := .det [.flt .f64] [.snap (.int .u64)] (fun x => W64 x.1) (fun x => mag2R x.1)
def Zq_bits_place : Con := .det [.flt .f64] [.snap (.int .u64)] (fun x => W64 x.1) (fun x => placeR x.1)
def Zq_cmp_isNaN_uint64 : Con := .det [.int .u64] [.snap .bool] (fun _ => True) (fun x => noR x.1)
def Zq_cmp_Compare_uint64 : Con := .det [.int .u64, .int .u64] [.snap (.int .i64)] (fun _ => True) (fun x => cmpR x.1 x.2.1)
def Zq_bits_Order : Con := .det [.flt .f64, .flt .f64] [.snap (.int .i64)] (fun x => W2 x.1 x.2.1) (fun x => ordR x.1 x.2.1)
def Zq_cmp_Or_int : Con := .det [.slice (.int .i64)] [.snap (.int .i64)] (fun _ => True) (fun x => orR x.1)
def Zq_sum_Three_c1 : Con := .det [.flt .f64, .flt .f64] [.snap (.int .i64)] (fun x => W2 x.1 x.2.1) (fun x => cmpMR x.1 x.2.1)
def Zq_ref01_Order : Con := .det [.flt .f64, .flt .f64] [.snap (.int .i64)] (fun x => W2 x.1 x.2.1) (fun x => ordR x.1 x.2.1)
def Zq_ref05_ahead : Con := .det [.flt .f64, .flt .f64] [.snap .bool] (fun x => W2 x.1 x.2.1) (fun x => aheadR x.1 x.2.1)
def Zq_math_IsInf : Con := .det [.flt .f64, .int .i64] [.snap .bool] (fun x => WI x.1 x.2.1) (fun x => infSR x.1 x.2.1)
def Zq_ref01_Class : Con := .det [.flt .f64] [.snap (.int .i64)] (fun x => W64 x.1) (fun x => classR x.1)
def Zq_sum_row : Con := .det [.slice (.flt .f64)] [.snap (.flt .f64)] (fun x => WL x.1) (fun x => rowR x.1)
def Zq_ref05_Three : Con := .det [.flt .f64, .flt .f64, .flt .f64] [.snap (.flt .f64)] (fun x => W3 x.1 x.2.1 x.2.2.1) (fun x => threeR x.1 x.2.1 x.2.2.1)
def Zq_mbits_Len64 : Con := .det [.int .u64] [.snap (.int .i64)] (fun x => IsThree x.1) (fun x => twoR x.1)
def Zq_mbits_Len : Con := .det [.int .u64] [.snap (.int .i64)] (fun x => IsThree x.1) (fun x => twoR x.1)
def Zq_sum_Three : Con := .det [.flt .f64, .flt .f64, .flt .f64] [.snap (.flt .f64)] (fun x => W3 x.1 x.2.1 x.2.2.1) (fun x => threeR x.1 x.2.1 x.2.2.1)
def Zq_vec_canon : Con := .det [.flt .f64, .flt .f64, .flt .f64] [.snap kVec] (fun _ => True) (fun x => canonVR x.1 x.2.1 x.2.2.1)
def Zq_ref07_made : Con := .det [.flt .f64, .flt .f64, .flt .f64] [.snap kVec] (fun x => W3 x.1 x.2.1 x.2.2.1) (fun x => canonVR x.1 x.2.1 x.2.2.1)
def Zq_vec_Minus : Con := .det [kVec, kVec] [.snap kVec] (fun x => WV2 x.1 x.2.1) (fun x => minusR x.1 x.2.1)
def Zq_ref07_Minus : Con := .det [kVec, kVec] [.snap kVec] (fun x => WV2 x.1 x.2.1) (fun x => minusR x.1 x.2.1)
def Zq_ref07_less : Con := .rel [.flt .f64, .flt .f64, .flt .f64, .flt .f64] [.snap (.flt .f64)] (fun _ => True) (fun x r => lessP x.1 x.2.1 x.2.2.1 x.2.2.2.1 r) (fun x h => relF_ne (subQ_q _ _) (subQ_w _ _))
def Zq_vec_Cross : Con := .det [kVec, kVec] [.snap kVec] (fun _ => True) (fun x => crossR x.1 x.2.1)
def Zq_ref07_Cross : Con := .det [kVec, kVec] [.snap kVec] (fun _ => True) (fun x => crossR x.1 x.2.1)
def Zq_math_Sqrt : Con := .rel [.flt .f64] [.snap (.flt .f64)] (fun _ => True) (fun x r => sqrtP x.1 r) (fun x h => relF_ne (sqrtQ_q _) (sqrtQ_w _))
def Zq_raw_Sqrt : Con := .rel [.flt .f64] [.snap (.flt .f64)] (fun _ => True) (fun x r => sqrtP x.1 r) (fun x h => relF_ne (sqrtQ_q _) (sqrtQ_w _))
def Zq_vec_Length : Con := .det [kVec] [.snap (.flt .f64)] (fun x => WV x.1) (fun x => lengthR x.1)
def Zq_ref07_Length : Con := .det [kVec] [.snap (.flt .f64)] (fun x => WV x.1) (fun x => lengthR x.1)
def Zq_vec_Gap : Con := .det [kVec, kVec] [.snap (.flt .f64)] (fun x => WV2 x.1 x.2.1) (fun x => gapR x.1 x.2.1)
def Zq_vec_Unit : Con := .det [kVec] [.snap kVec] (fun x => WV x.1) (fun x => unitR x.1)
def Zq_ref07_Unit : Con := .det [kVec] [.snap kVec] (fun x => WV x.1) (fun x => unitR x.1)
def Zq_cube_good : Con := .det [.int .i64] [.snap .bool] (fun _ => True) (fun x => goodCR x.1)
def Zq_cube_Cells : Con := .det [.int .i64] [.snap (.int .i64)] (fun x => I64 x.1) (fun x => cellsR x.1)
def Zq_cube_Place : Con := .det [.int .i64, .int .i64] [.snap (.int .i64), .snap (.int .i64), .snap (.int .i64), .snap .bool] (fun x => II x.1 x.2.1) (fun x => placeR4 x.1 x.2.1)
def Zq_conv_FromInt : Con := .det [.int .i64] [.snap (.flt .f64)] (fun _ => True) (fun x => ofIR x.1)
def Zq_level_Depth : Con := .det [.int .i64, .int .i64] [.snap (.flt .f64)] (fun x => II x.1 x.2.1) (fun x => depthR x.1 x.2.1)
def Zq_math_Float32bits : Con := .det [.flt .f32] [.snap (.int .u32)] (fun _ => True) (fun x => bits32R x.1)
def Zq_math_archFloor : Con := .det [.flt .f64] [.snap (.flt .f64)] (fun x => WNum x.1) (fun x => floorR x.1)
def Zq_math_Floor : Con := .det [.flt .f64] [.snap (.flt .f64)] (fun x => WNum x.1) (fun x => floorR x.1)
def Zq_conv_To32 : Con := .det [.flt .f64] [.snap (.int .u32)] (fun x => W64 x.1) (fun x => to32R x.1)
def Zq_conv_near : Con := .det [.flt .f64] [.snap (.int .u64)] (fun x => WNear x.1) (fun x => nearR x.1)
def Zq_conv_Round : Con := .det [.flt .f64] [.snap (.int .i64), .snap .bool] (fun x => W64 x.1) (fun x => roundR x.1)
def Zq_geom_ratio : Con := .det [.int .i64, .int .i64] [.snap (.flt .f64)] (fun x => WRatio x.1 x.2.1) (fun x => ratioR x.1 x.2.1)
def Zq_geom_point : Con := .det [.int .i64, .flt .f64, .flt .f64] [.snap kVec] (fun x => WPoint x.1 x.2.1 x.2.2.1) (fun x => pointR x.1 x.2.1 x.2.2.1)
def Zq_geom_Corner : Con := .det [.int .i64, .int .i64, .int .i64, .int .i64] [.snap kVec, .snap .bool] (fun x => IIII x.1 x.2.1 x.2.2.1 x.2.2.2.1) (fun x => cornerR x.1 x.2.1 x.2.2.1 x.2.2.2.1)
def Zq_geom_corners : Con := .det [.int .i64, .int .i64] [.snap (.arr 4 kVec), .snap .bool] (fun x => II x.1 x.2.1) (fun x => cornersR x.1 x.2.1)
def Zq_geom_Area : Con := .det [.int .i64, .int .i64] [.snap (.int .i64)] (fun x => II x.1 x.2.1) (fun x => areaR x.1 x.2.1)
def Zq_state_between : Con := .det [.flt .f64, .flt .f64, .flt .f64] [.snap .bool] (fun x => W3 x.1 x.2.1 x.2.2.1) (fun x => betweenR x.1 x.2.1 x.2.2.1)
def Zq_state_floats : Con := .det [.slice (.flt .f64), .flt .f64] [.snap (.int .i64)] (fun x => WLF x.1 x.2.1) (fun x => floatsR x.1 x.2.1)
def Zq_state_quanta : Con := .det [.slice (.int .i64), .int .i64] [.snap (.int .i64)] (fun x => WQuanta x.1 x.2.1) (fun x => quantaR x.1 x.2.1)
def Zq_state_Check : Con := .det [.int .i64, kSea] [.snap (.int .i64), .snap (.int .i64)] (fun x => WCheck x.1 x.2.1) (fun x => checkR x.1 x.2.1)
def Zq_tile_root : Con := .det [.int .i64] [.snap (.int .i64)] (fun x => I64 x.1) (fun x => rootR x.1)
def Zq_tile_bounds : Con := .det [.slice (.int .u32)] [.snap (.int .u32), .snap (.int .u32)] (fun x => NE x.1) (fun x => endsR x.1)
def Zq_tile_good : Con := .det [kTile] [.snap .bool] (fun x => NET x.1) (fun x => lowR x.1)
def Zq_tile_get : Con := .det [.slice (.int .u8)] [.snap (.int .u32)] (fun x => WNum4 x.1) (fun x => num4R x.1)
def Zq_tile_Encode : Con := .det [kTile] [.own 5 (.int .u8), .snap (.int .i64)] (fun x => TiOk x.1) (fun x => encodeR x.1)
def Zq_tile_Decode : Con := .det [.slice (.int .u8)] [.snap kTile, .snap (.int .i64)] (fun x => BLs x.1) (fun x => decodeR x.1)
def Zq_tile_Tiles : Con := .det [.int .i64, kSea] [.snap (.slice kTile), .snap (.int .i64)] (fun x => WCheck x.1 x.2.1) (fun x => tilesR x.1 x.2.1)
def Zq_ref24_ends : Con := .det [.slice (.int .u32)] [.snap (.int .u32), .snap (.int .u32)] (fun x => NE x.1) (fun x => endsR x.1)
def Zq_law24_same : Con := .det [kTile, kTile] [.snap .bool] (fun _ => True) (fun x => sameTR x.1 x.2.1)
def Zq_law24_four : Con := .det [] [.snap kTile] (fun _ => True) (fun x => fourR)
def Zq_law24_awake : Con := .det [] [.snap .bool] (fun _ => True) (fun x => trueR0)
def Zq_ref20_between : Con := .det [.flt .f64, .flt .f64, .flt .f64] [.snap .bool] (fun x => W3 x.1 x.2.1 x.2.2.1) (fun x => betweenR x.1 x.2.1 x.2.2.1)
def Zq_ref20_floats : Con := .det [.slice (.flt .f64), .flt .f64] [.snap (.int .i64)] (fun x => WLF x.1 x.2.1) (fun x => floatsR x.1 x.2.1)
def Zq_ref20_quanta : Con := .det [.slice (.int .i64), .int .i64] [.snap (.int .i64)] (fun x => WQuanta x.1 x.2.1) (fun x => quantaR x.1 x.2.1)
def Zq_ref20_Check : Con := .det [.int .i64, kSea] [.snap (.int .i64), .snap (.int .i64)] (fun x => WCheck x.1 x.2.1) (fun x => checkR x.1 x.2.1)
def Zq_ref06_Cells : Con := .det [.int .i64] [.snap (.int .i64)] (fun x => I64 x.1) (fun x => cellsR x.1)
def Zq_ref06_Place : Con := .det [.int .i64, .int .i64] [.snap (.int .i64), .snap (.int .i64), .snap (.int .i64), .snap .bool] (fun x => II x.1 x.2.1) (fun x => placeR4 x.1 x.2.1)
def Zq_ref02_length : Con := .det [.int .u64] [.snap (.int .i64)] (fun x => U64 x.1) (fun x => lenR x.1)
def Zq_ref02_down : Con := .det [.int .u64, .int .i64] [.snap (.int .u64), .snap (.int .i64)] (fun x => WDown x.1 x.2.1) (fun x => downR x.1 x.2.1)
def Zq_ref02_near : Con := .det [.int .u64, .int .i64] [.snap (.int .u64)] (fun x => WDown x.1 x.2.1) (fun x => cutR x.1 x.2.1)
def Zq_ref02_small : Con := .det [.int .u64, .int .i64, .int .i64, .int .i64, .int .u64] [.snap (.int .u64)] (fun x => WSmall x.1 x.2.1 x.2.2.1 x.2.2.2.1 x.2.2.2.2.1) (fun x => smallR x.1 x.2.1 x.2.2.1 x.2.2.2.1 x.2.2.2.2.1)
def Zq_ref02_FromInt : Con := .det [.int .i64] [.snap (.flt .f64)] (fun x => I64 x.1) (fun x => ofIR x.1)
def Zq_ref02_parts : Con := .det [.flt .f64] [.snap .bool, .snap (.int .u64), .snap (.int .i64), .snap (.int .i64)] (fun x => W64 x.1) (fun x => partsR x.1)
def Zq_ref02_To32 : Con := .det [.flt .f64] [.snap (.int .u32)] (fun x => W64 x.1) (fun x => to32R x.1)
def Zq_ref11_Depth : Con := .det [.int .i64, .int .i64] [.snap (.flt .f64)] (fun x => II x.1 x.2.1) (fun x => depthR x.1 x.2.1)
def Zq_ref08_ratio : Con := .det [.int .i64, .int .i64] [.snap (.flt .f64)] (fun x => WRatio x.1 x.2.1) (fun x => ratioR x.1 x.2.1)
def Zq_ref08_component : Con := .det [.int .i64, .int .i64, .flt .f64, .flt .f64] [.snap (.flt .f64)] (fun x => WComp x.1 x.2.1 x.2.2.1 x.2.2.2.1) (fun x => compR x.1 x.2.1 x.2.2.1 x.2.2.2.1)
def Zq_ref08_point : Con := .det [.int .i64, .flt .f64, .flt .f64] [.snap kVec] (fun x => WPoint x.1 x.2.1 x.2.2.1) (fun x => pointR x.1 x.2.1 x.2.2.1)
def Zq_ref08_Corner : Con := .det [.int .i64, .int .i64, .int .i64, .int .i64] [.snap kVec, .snap .bool] (fun x => IIII x.1 x.2.1 x.2.2.1 x.2.2.2.1) (fun x => cornerR x.1 x.2.1 x.2.2.1 x.2.2.2.1)
def Zq_ref02_whole : Con := .det [.bool, .int .u64] [.snap (.int .i64), .snap .bool] (fun x => WWhole x.1 x.2.1) (fun x => wholeBR x.1 x.2.1)
def Zq_ref02_great : Con := .det [.int .u64, .int .i64] [.snap .bool] (fun x => WGreat x.1 x.2.1) (fun x => greatR x.1 x.2.1)
def Zq_ref02_Round : Con := .det [.flt .f64] [.snap (.int .i64), .snap .bool] (fun x => W64 x.1) (fun x => roundR x.1)
def Zq_ref08_Area : Con := .det [.int .i64, .int .i64] [.snap (.int .i64)] (fun x => II x.1 x.2.1) (fun x => areaR x.1 x.2.1)
def Zq_ref24_Tiles : Con := .det [.int .i64, kSea] [.snap (.slice kTile), .snap (.int .i64)] (fun x => WCheck x.1 x.2.1) (fun x => tilesR x.1 x.2.1)
def Zq_law24_TileSeas : Con := .det [.int .i64, kSea] [.snap .bool] (fun x => WCheck x.1 x.2.1) (fun x => trueR2 x.1 x.2.1)
def Zhn_cmp_Or_int : Hn := { loops := fun k => match k with | 3 => some { ls := [(.slot 8, .data (.int .i64))], os := [] } | _ => none, joins := fun _ => none, named := true }
def Zhn_sum_row : Hn := { loops := fun k => match k with | 5 => some { ls := [(.slot 3, .data (.flt .f64)), (.slot 15, .data (.int .i64))], os := [] } | _ => none, joins := fun _ => none, named := true }
def Zhn_sum_Three : Hn := { loops := fun _ => none, joins := fun _ => none, inl := inlL [136] }
def Zhn_geom_point : Hn := { loops := fun _ => none, joins := hintH [(13, { ls := [], os := [(1, 165, .flt .f64)] })], unroll := fun _ => some 4 }
def Zhn_geom_corners : Hn := { loops := fun _ => none, joins := fun _ => none, unroll := fun _ => some 5 }
def Zhn_state_floats : Hn := { loops := fun _ => none, joins := fun _ => none, named := true, inl := inlL [98] }
def Zhn_state_quanta : Hn := { loops := fun _ => none, joins := fun _ => none, named := true, inl := inlL [101] }
def Zhn_state_Check : Hn := { loops := fun _ => none, joins := fun _ => none, unroll := fun _ => some 5 }
def Zhn_tile_root : Hn := { loops := hintH [(2, { ls := [(.slot 3, .data (.int .i64))], os := [] })], joins := fun _ => none, named := true }
def Zhn_tile_bounds : Hn := { loops := hintH [(3, { ls := [(.slot 4, .data (.int .u32)), (.slot 5, .data (.int .u32)), (.slot 16, .data (.int .i64))], os := [] })], joins := fun _ => none, named := true }
def Zhn_tile_good : Hn := { loops := hintH [(2, { ls := [(.slot 10, .data (.int .i64))], os := [] })], joins := fun _ => none, named := true }
def Zhn_tile_Encode : Hn := { loops := hintH [(11, { ls := [(.slot 6, .data (.int .u32)), (.slot 60, .data (.int .i64))], os := [(1, 5, .int .u8)] })], joins := fun _ => none, named := true, inl := inlL [64] }
def Zhn_tile_Decode : Hn := { loops := hintH [(15, { ls := [(.slot 7, .data (.int .u32)), (.slot 71, .data (.int .i64))], os := [(2, 32, .int .u32)] })], joins := fun _ => none, named := true }
def Zhn_tile_Tiles : Hn := { loops := hintH [(7, { ls := [(.slot 31, .data (.int .i64))], os := [(1, 35, kTile)] }), (11, { ls := [(.slot 38, .data (.int .i64))], os := [(2, 32, .int .u32)] })], joins := fun _ => none, named := true }
def Zhn_ref24_ends : Hn := { loops := hintH [(4, { ls := [(.slot 4, .data (.int .u32)), (.slot 5, .data (.int .u32)), (.slot 6, .data (.int .i64))], os := [] })], joins := hintH [(8, { ls := [(.slot 4, .data (.int .u32))], os := [] }), (5, { ls := [(.slot 4, .data (.int .u32)), (.slot 5, .data (.int .u32))], os := [] })], named := true }
def Zhn_law24_same : Hn := { loops := hintH [(4, { ls := [(.slot 5, .data (.int .i64))], os := [] })], joins := fun _ => none, named := true }
def Zhn_ref20_floats : Hn := { loops := hintH [(2, { ls := [(.slot 5, .data (.int .i64))], os := [] })], joins := fun _ => none, named := true }
def Zhn_ref20_quanta : Hn := { loops := hintH [(2, { ls := [(.slot 5, .data (.int .i64)), (.slot 1, .data (.int .i64))], os := [] })], joins := fun _ => none, named := true }
def Zhn_ref20_Check : Hn := { loops := fun _ => none, joins := fun _ => none, unroll := fun _ => some 5 }
def Zhn_ref02_length : Hn := { loops := hintH [(2, { ls := [(.slot 0, .data (.int .u64)), (.slot 3, .data (.int .i64))], os := [] })], joins := fun _ => none, named := true }
def Zhn_ref02_small : Hn := { loops := fun _ => none, joins := hintH [(6, { ls := [(.slot 11, .data (.int .i64))], os := [] }), (9, { ls := [(.slot 12, .data (.int .u64))], os := [] }), (11, { ls := [(.slot 12, .data (.int .u64))], os := [] })], named := true }
def Zhn_ref08_component : Hn := { loops := fun _ => none, joins := fun _ => none, named := true, inl := inlL [162, 163] }
def Zhn_ref24_Tiles : Hn := { loops := hintH [(6, { ls := [(.slot 9, .data (.int .i64)), (.slot 8, .row 35 kTile)], os := [] }), (10, { ls := [(.slot 11, .data (.int .i64)), (.cell 3 3, .row 32 (.int .u32))], os := [] })], joins := fun _ => none, named := true }
def Zhn_law24_TileSeas : Hn := { loops := hintH [(8, { ls := [(.slot 9, .data (.int .i64))], os := [] })], joins := fun _ => none, named := true }
noncomputable def Zfns_sort3 (f : Nat) : Option InFn := match f with
  | 136 => some ⟨Tryz.f136.ntmps, Tryz.f136.results.toList, Tryz.f136.body.getD .skip, { loops := fun _ => none, joins := fun _ => none, inl := inlL [136, 154, 166], unroll := fun k => some 4 }⟩
  | 154 => some ⟨Tryz.f154.ntmps, Tryz.f154.results.toList, Tryz.f154.body.getD .skip, { loops := fun _ => none, joins := fun _ => none, inl := inlL [136, 154, 166], unroll := fun k => some 4 }⟩
  | 166 => some ⟨Tryz.f166.ntmps, Tryz.f166.results.toList, Tryz.f166.body.getD .skip, { loops := fun _ => none, joins := fun _ => none, inl := inlL [136, 154, 166], unroll := fun k => some 4 }⟩
  | _ => none
theorem Zfns_sort3_ok : FnsOk Tryz.prog Zfns_sort3 := by
  intro f fn h
  unfold Zfns_sort3 at h
  split at h
  · cases h; exact ⟨Tryz.f136, Tryz.func136, rfl, rfl, by simp, by decide⟩
  · cases h; exact ⟨Tryz.f154, Tryz.func154, rfl, rfl, by simp, by decide⟩
  · cases h; exact ⟨Tryz.f166, Tryz.func166, rfl, rfl, by simp, by decide⟩
  · cases h
noncomputable def Zfns_idxF (f : Nat) : Option InFn := match f with
  | 98 => some ⟨Tryz.f98.ntmps, Tryz.f98.results.toList, Tryz.f98.body.getD .skip, { loops := hintH [(2, { ls := [(.slot 8, .data (.int .i64))], os := [] })], joins := fun _ => none, named := true, inl := inlL [99] }⟩
  | 99 => some ⟨Tryz.f99.ntmps, Tryz.f99.results.toList, Tryz.f99.body.getD .skip, nHn⟩
  | _ => none
theorem Zfns_idxF_ok : FnsOk Tryz.prog Zfns_idxF := by
  intro f fn h
  unfold Zfns_idxF at h
  split at h
  · cases h; exact ⟨Tryz.f98, Tryz.func98, rfl, rfl, by simp, by decide⟩
  · cases h; exact ⟨Tryz.f99, Tryz.func99, rfl, rfl, by simp, by decide⟩
  · cases h
noncomputable def Zfns_idxI (f : Nat) : Option InFn := match f with
  | 101 => some ⟨Tryz.f101.ntmps, Tryz.f101.results.toList, Tryz.f101.body.getD .skip, { loops := hintH [(2, { ls := [(.slot 8, .data (.int .i64)), (.cell 0 0, .data (.int .i64))], os := [] })], joins := fun _ => none, named := true, inl := inlL [102] }⟩
  | 102 => some ⟨Tryz.f102.ntmps, Tryz.f102.results.toList, Tryz.f102.body.getD .skip, nHn⟩
  | _ => none
theorem Zfns_idxI_ok : FnsOk Tryz.prog Zfns_idxI := by
  intro f fn h
  unfold Zfns_idxI at h
  split at h
  · cases h; exact ⟨Tryz.f101, Tryz.func101, rfl, rfl, by simp, by decide⟩
  · cases h; exact ⟨Tryz.f102, Tryz.func102, rfl, rfl, by simp, by decide⟩
  · cases h
noncomputable def Zfns_put (f : Nat) : Option InFn := match f with
  | 64 => some ⟨Tryz.f64.ntmps, Tryz.f64.results.toList, Tryz.f64.body.getD .skip, nHn⟩
  | _ => none
theorem Zfns_put_ok : FnsOk Tryz.prog Zfns_put := by
  intro f fn h
  unfold Zfns_put at h
  split at h
  · cases h; exact ⟨Tryz.f64, Tryz.func64, rfl, rfl, by simp, by decide⟩
  · cases h
noncomputable def Zfns_frame8 (f : Nat) : Option InFn := match f with
  | 162 => some ⟨Tryz.f162.ntmps, Tryz.f162.results.toList, Tryz.f162.body.getD .skip, nHn⟩
  | 163 => some ⟨Tryz.f163.ntmps, Tryz.f163.results.toList, Tryz.f163.body.getD .skip, nHn⟩
  | _ => none
theorem Zfns_frame8_ok : FnsOk Tryz.prog Zfns_frame8 := by
  intro f fn h
  unfold Zfns_frame8 at h
  split at h
  · cases h; exact ⟨Tryz.f162, Tryz.func162, rfl, rfl, by simp, by decide⟩
  · cases h; exact ⟨Tryz.f163, Tryz.func163, rfl, rfl, by simp, by decide⟩
  · cases h
end Go.Lift

/- What a row says of floats. Own work. -/
namespace Go.Lift
theorem rngF {b : Nat} (h : K.rng (.flt .f64) b) : W64 b := by
  have h : (Lit.float .f64 b).wf = true := h
  have := of_decide_eq_true (show decide (b < 2 ^ 64) = true from h)
  exact this
theorem rngV {v : Nat × Nat × Nat} (h : K.rng (.pair (.flt .f64) (.pair (.flt .f64) (.flt .f64))) v) : WV v := ⟨rngF h.1, rngF h.2.1, rngF h.2.2⟩
theorem rngL {l : List Nat} (h : K.rng (.slice (.flt .f64)) l) : WL l := fun x hx => rngF (h x hx)
end Go.Lift

/- A law's row over variables that the program's text lays. Own work. -/
set_option linter.unusedVariables false
set_option linter.unusedSimpArgs false
namespace Go.Lift
open Go.ChangeShapes Go.WideShapes Go.RowKit

mutual
/-- A table of numbers, read. -/
def K.ofD : (k : K) → DataW Unit → Option k.T
  | .int ik, .lit (.int jk n) => if jk = ik then some n else none
  | .arr n e, .agg ds => match ofDs e ds with
    | some xs => if xs.length = n then some xs else none
    | none => none
  | _, _ => none
def ofDs : (e : K) → List (DataW Unit) → Option (List e.T)
  | _, [] => some []
  | e, d :: ds => match K.ofD e d with
    | some x => match ofDs e ds with
      | some xs => some (x :: xs)
      | none => none
    | none => none
end
theorem rows_by {α : Type} {R : α → List Value → Prop} {s : Nat} : ∀ {ys : List α} {cs : List Value}, cs.length = ys.length * s → (∀ (i : Nat) (y : α), ys[i]? = some y → R y ((cs.drop (i * s)).take s)) → Rows R ys cs
  | [], cs, h, _ => List.eq_nil_of_length_eq_zero (by simpa using h)
  | y :: ys, cs, h, hr => by
    rw [List.length_cons, Nat.add_mul, Nat.one_mul] at h
    refine ⟨cs.take s, cs.drop s, (List.take_append_drop s cs).symm, by simpa using hr 0 y rfl, rows_by (s := s) (by rw [List.length_drop]; omega) fun i z hz => ?_⟩
    have := hr (i + 1) z (by simpa using hz)
    rwa [Nat.add_mul, Nat.one_mul, Nat.add_comm, ← List.drop_drop] at this
theorem ofDs_get : ∀ {e : K} {ds : List (DataW Unit)} {xs : List e.T}, ofDs e ds = some xs → xs.length = ds.length ∧ ∀ (i : Nat) (x : e.T), xs[i]? = some x → ∃ d, ds[i]? = some d ∧ K.ofD e d = some x
  | e, [], xs, h => by simp only [ofDs, Option.some.injEq] at h; subst h; exact ⟨rfl, fun i x hx => by simp at hx⟩
  | e, d :: ds, xs, h => by
    simp only [ofDs] at h
    split at h
    · rename_i x hx
      split at h
      · rename_i ys hys
        cases h
        obtain ⟨h1, h2⟩ := ofDs_get hys
        refine ⟨by simp [h1], fun i z hz => ?_⟩
        cases i with
        | zero => simp at hz; subst hz; exact ⟨d, rfl, hx⟩
        | succ i => simpa using h2 i z (by simpa using hz)
      · cases h
    · cases h
theorem trod_ofD {P : Program} {w : World} {ok : Nat → Prop} : ∀ {k : K} {t : TypeId}, KT P t k → ∀ {fuel : Nat} {cs : List Value} {x : DataW Unit × List MemPlace} {y : k.T}, DataW.trod (fun _ => ()) P w 0 (fun _ => true) false fuel t cs = some x → K.ofD k x.1 = some y → k.rep w ok y cs := by
  intro k
  induction k with
  | int ik =>
    intro t hk fuel cs x y h hy
    cases hk with
    | int ht =>
      obtain ⟨n, h1, h2, _⟩ := DataW.trod_int ht h
      rw [h2] at hy
      simp only [K.ofD, if_true] at hy
      obtain rfl := Option.some.inj hy
      exact h1
  | arr n e ih =>
    intro t hk fuel cs x y h hy
    cases hk with
    | arr ht hc hs he =>
      obtain ⟨xs, m, rfl, rfl, h1, h2, h3⟩ := DataW.trod_array ht h
      simp only [K.ofD] at hy
      split at hy
      · rename_i ys hys
        split at hy
        · rename_i hl
          cases hy
          obtain ⟨g1, g2⟩ := ofDs_get hys
          refine ⟨hl, rows_by (s := e.sz) (by rw [h1, hs, hl]) fun i z hz => ?_⟩
          obtain ⟨d, hd, hz2⟩ := g2 i z hz
          have hi : i < n := by rw [← hl]; exact (List.getElem?_eq_some_iff.1 hz).1
          have h4 := h3 i hi
          rw [hc] at h4
          rw [List.getElem?_map] at hd
          cases hx : xs[i]? with
          | none => rw [hx] at hd; cases hd
          | some q =>
            rw [hx] at hd h4
            cases hd
            exact ih he h4 hz2
        · cases hy
      · cases hy
  | _ => intro t hk fuel cs x y h hy; simp [K.ofD] at hy

theorem laid_mem {P : Program} {w : World} {n : String} {d : DataW Unit} : ∀ {l : List (String × DataW Unit)} {ps : List MemPlace}, DataW.LaidVars P w l ps → (n, d) ∈ l →
    ∃ g t cs fuel p, P.globalNamed n = some g ∧ (P.globals[g]?).map (·.type) = some t ∧ w.var? P n = some cs ∧ DataW.trod (fun _ => ()) P w 0 (fun _ => true) false fuel t cs.toList = some (d, p)
  | [], ps, _, h => by cases h
  | (m, e) :: l, ps, ⟨g, t, cs, fuel, p, q, h1, h2, h3, h4, h5, _⟩, h => by
    rcases List.mem_cons.1 h with h | h
    · cases h; exact ⟨g, t, cs, fuel, p, h1, h2, h3, h4⟩
    · exact laid_mem h5 h

/-- What the text lays in a variable is the datum of its kind. -/
theorem laid_rep {P : Program} {w : World} {l : List (String × DataW Unit)} (h : laidMet P l w) {n : String} {d : DataW Unit} (hm : (n, d) ∈ l) {g : Nat} {t : TypeId} (hg : P.globalNamed n = some g) (ht : (P.globals[g]?).map (·.type) = some t) {k : K} (hk : KT P t k) {x : k.T} (hx : K.ofD k d = some x) :
    (K.ptr k).rep w (fun b => b < w.heap.size) (some x) [.pointer (some ⟨g, 0, none⟩)] := by
  obtain ⟨ps, h1, _, _⟩ := h
  obtain ⟨g', t', cs, fuel, p, h2, h3, h4, h5⟩ := laid_mem h1 hm
  rw [hg] at h2; cases h2
  rw [ht] at h3; cases h3
  have hlt : g < w.heap.size := by
    simp only [World.var?, hg, Option.bind_some] at h4
    split at h4
    · rename_i hh; exact lt_of_some hh
    · cases h4
  refine .inr ⟨x, g, 0, cs.toList, rfl, rfl, hlt, trod_ofD hk h5 hx, fun j v hj => ?_⟩
  rw [Nat.zero_add, World.var?_cell hg h4 j]
  simpa using hj

section
variable {H : Type} {enc : TypeId × Value → H}

theorem law_laid {C : Checked} {os : Os} {f : FuncId} {fn : Func} {s : ChangeSpec} {ks : List K} {pre : KS ks → Prop} {tb : TypeId} {G : Globs} {X : World → Array Value → Prop} (hX : ∀ (w w' : World) (args : Array Value), w.heap = w'.heap → X w args → X w' args) (hG : ∀ (w : World) (args : Array Value), X w args → GW G w (fun b => b < w.heap.size))
    (own : ownKnob C.prog.godebug = none) (started : os.Started) (noInit : C.prog.inits.idxOf? f = none)
    (hfn : C.prog.funcs[f]? = some fn) (hbody : fn.body.isSome = true) (hname : (fn.name == "runtime.NumGoroutine") = false)
    (witness : ∃ (w : World) (tape : Tape) (i : Input), w.os = os ∧ (w.forCall tape i).Shaped C.prog ∧ i.vars = [] ∧ Input.okWide C.prog (w.forCall tape i) .any w.heap.size f i ∧
      ((s.pre enc C.prog fn [] false (w.forCall tape i).memory i.args ∧ X (w.forCall tape i).memory i.args) ∧ sizedMet enc C.prog fn (OpenSpec.ofChange s) false (w.forCall tape i).memory i.args) ∧ ({} : Assume).holds C.prog (lone (Frame.enter C.prog f i.args .normal) [] (w.forCall tape i)))
    (hl : laidOutB C.prog = true) (hks : All2 (KT C.prog) fn.params.toList ks) (hread : ∀ t ∈ fn.params.toList, C.prog.readableRec t = true ∧ t < C.prog.types.size)
    (hres : fn.resultTypes = #[tb]) (htb : C.prog.underlying tb = some .bool) (hs : LawSpec s ks.length)
    (hcon : (Con.det ks [.snap .bool] pre (fun _ => (true, ()))).holds C.prog G f) (hpre : ∀ x, KS.rng ks x → KS.wf ks x → pre x) :
    ReturnsInHanded {} C os f .any (fun w args => (s.pre enc C.prog fn [] false w args ∧ X w args) ∧ sizedMet enc C.prog fn (OpenSpec.ofChange s) false w args) (s.post enc C.prog fn false true false false) := by
  refine returnsInHanded_of_calls own started noInit witness ?_
  intro w tape i _ _ _ hok hp hholds
  obtain ⟨_, _, _, fn', hfn', _, _, _, _, hval⟩ := hok
  have e : fn' = fn := Option.some.inj (hfn'.symm.trans hfn)
  subst e
  obtain ⟨⟨⟨ds, gs, before, hw, hc⟩, hx⟩, hz⟩ := hp
  have hx := hX _ (w.forCall tape i) _ (by rfl) hx
  have hW := DataW.Whole.of_heap (w' := w.forCall tape i) (by rfl) hw
  have hwt := hz.weights hw
  generalize w.forCall tape i = W at *
  have hlt : ∀ p ∈ before, p.block < W.heap.size := fun p hp => hW.lt p hp
  obtain ⟨p, q, hA, hV, rfl, hfz, hnd⟩ := id hW
  rw [hs.1] at hV
  obtain ⟨rfl, rfl⟩ := trodVars_none hV
  have hvt : (OpenSpec.ofChange s).bare.plain.varTypes C.prog = [] := by
    show (s.plain.varTypes C.prog) = []
    unfold DataSpec.varTypes
    show s.vars.filterMap _ = []
    rw [hs.1]; rfl
  simp only [List.append_nil] at hwt hW hlt
  rw [hvt, List.append_nil, List.all_eq_true] at hwt
  obtain ⟨x, h1, h2, h3⟩ := args_rep hks hA (fun j t v ht hv => hval j t v (by simpa using ht) (by simpa using hv)) (fun m hm => by simpa using hwt m hm)
  have hspec := hcon W (fun b => b < W.heap.size) (fun _ h => h) x i.args.toList h1 (hG W _ hx) (hpre x h2 h1.wf)
  obtain ⟨code, hcode⟩ := Option.isSome_iff_exists.1 hbody
  have hcalls : Calls C.prog f i.args W fun e w' => ∃ v, e = .returned v ∧ Grows W w' ∧ ResRep W w' (fun b => b < W.heap.size) [.snap .bool] (true, ()) v := by
    rcases hspec with ⟨v, w', g1, _⟩ | ⟨_, g2⟩
    · have := callFunc_run hfn hcode hname i.args.toList.toArray W
      rw [this] at g1; cases g1
    · simpa using g2
  refine hcalls.mono fun e W' ⟨v, he, hg, hr⟩ => ?_
  subst he
  refine ChangeSpec.post_blind ?_
  have hv : v = .bool true := by
    obtain ⟨vs, obs, hv, _, v0, vr, o1, o2, rfl, _, ⟨_, h5⟩, rfl, _⟩ := hr
    rw [hv]
    exact (List.cons.inj h5).1
  subst hv
  have hds := hs.2 H ds h3
  have hb : Below W.heap.size W W' := ⟨hg.os, hg.tape, hg.output, hg.size, hg.keep⟩
  refine ⟨ds, [], p, [], p, [], hW, ?_, ?_, ?_, World.keptBut_mono (fun p hp => ⟨hp, .inr (.inl hp)⟩) (hb.frame (· ∈ p)), fun h => by cases h⟩
  · rw [List.append_nil, hds, hres]
    exact trodAll_mk1 (RowKit.shut_bool htb true)
  · rw [List.append_nil, hds]
    exact args_keep hl hg hread hA hlt (fun x hx => by simpa using hlt x hx)
  · rw [List.append_nil, hds, hs.1]
    rfl
end
end Go.Lift

/- Ranges of what is handed in. Own work. -/
set_option linter.unusedVariables false
set_option linter.unusedSimpArgs false
namespace Go.Lift
theorem rngI {n : Int} (h : K.rng (.int .i64) n) : I64 n := by
  have h' : (decide (IntKind.i64.min ≤ n) && decide (n ≤ IntKind.i64.max)) = true := h
  simp [IntKind.min, IntKind.max, IntKind.bits, IntKind.signed] at h'
  unfold I64; omega
theorem rngU32 {n : Int} (h : K.rng (.int .u32) n) : U32 n := by
  have h' : (decide (IntKind.u32.min ≤ n) && decide (n ≤ IntKind.u32.max)) = true := h
  simp [IntKind.min, IntKind.max, IntKind.bits, IntKind.signed] at h'
  unfold U32; omega
theorem rngU8 {n : Int} (h : K.rng (.int .u8) n) : U8 n := by
  have h' : (decide (IntKind.u8.min ≤ n) && decide (n ≤ IntKind.u8.max)) = true := h
  simp [IntKind.min, IntKind.max, IntKind.bits, IntKind.signed] at h'
  unfold U8; omega
theorem rngTi {t : Ti} (h : K.rng kTile t) : TiOk t := ⟨rngI h.1, rngU32 h.2.1, rngU32 h.2.2.1, fun x hx => rngU32 (h.2.2.2 x hx)⟩
theorem rngB {b : List Int} (h : K.rng (.slice (.int .u8)) b) : BLs b := fun x hx => rngU8 (h x hx)
theorem rngSe {s : Se} (h : K.rng kSea s) : SeaOk s := ⟨rngL h.1, fun x hx => rngI (h.2.1 x hx), fun x hx => rngI (h.2.2.1 x hx), rngL h.2.2.2.1, rngI h.2.2.2.2.1, rngI h.2.2.2.2.2⟩
end Go.Lift

/- What the program's text lays, at this seat. Own work. -/
namespace Go.Proofs.YtomopcclgokehaaGreatDoor
open Go.Lift
theorem own : ownKnob Tryz.checked.prog.godebug = none := by kernel_rfl
theorem laidOut : laidOutB Tryz.checked.prog = true := by kernel_rfl
theorem gFr : Tryz.prog.globalNamed "tarn/geom.frames" = some 2 := by kernel_rfl
theorem tFr : (Tryz.prog.globals[2]?).map (·.type) = some 176 := by kernel_rfl
def laidL : List (String × DataW Unit) := [("tarn/geom.frames", Rows.laid_tarn_geom_frames)]
theorem door_met (os : Os) (args : Array Value) : laidMetH Tryz.prog laidL ((World.doorLaid Tryz.prog 400 os).forCall (fun _ _ => 0) ⟨#[], args, []⟩).memory :=
  laidMetH_of_parts3 (fuel := 8) (laidMet_of_run' 8 (by kernel_rfl) (by kernel_rfl)) (by kernel_rfl) (by kernel_rfl)
theorem laid_globs (w : World) (h : laidMetH Tryz.prog laidL w) : GW ZG w (fun b => b < w.heap.size) := by
  rw [MakeChecks.laidMetH_plain _ _ _ (by kernel_rfl)] at h
  intro g k x hg
  unfold ZG at hg
  split at hg
  · cases hg
    exact laid_rep h (n := "tarn/geom.frames") List.mem_cons_self gFr tFr (ktB_sound 9 176 _ (by kernel_rfl)) (by kernel_rfl)
  · cases hg
end Go.Proofs.YtomopcclgokehaaGreatDoor

/- Own work. -/
set_option linter.unusedVariables false
set_option linter.unusedSimpArgs false
namespace Go.Lift
def Fx_law24_TileSeas := fun (ty25 : Nat) (n : Int) (s : List Nat × List Int × List Int × List Nat × Int × Int) (post : Bool × Unit → Prop) => ∃ (h : True), ∀ (a : Bool), a =
  trueR0.fst → Br (!a) (post (Bool.false, ())) (∃ (h : WCheck n (s.fst, s.snd.fst, s.snd.snd.fst, s.snd.snd.snd.fst, s.snd.snd.snd.snd.fst, s.snd.snd.snd.snd.snd)), ∃ (h : WCheck n
  (s.fst, s.snd.fst, s.snd.snd.fst, s.snd.snd.snd.fst, s.snd.snd.snd.snd.fst, s.snd.snd.snd.snd.snd)), ∀ (a : Bool), a = ((tilesR n (s.fst, s.snd.fst, s.snd.snd.fst,
  s.snd.snd.snd.fst, s.snd.snd.snd.snd.fst, s.snd.snd.snd.snd.snd)).snd.fst != (tilesR n (s.fst, s.snd.fst, s.snd.snd.fst, s.snd.snd.snd.fst, s.snd.snd.snd.snd.fst,
  s.snd.snd.snd.snd.snd)).snd.fst) → Br a (post (Bool.false, ())) (∀ (a : Bool), a = ((↑(tilesR n (s.fst, s.snd.fst, s.snd.snd.fst, s.snd.snd.snd.fst, s.snd.snd.snd.snd.fst,
  s.snd.snd.snd.snd.snd)).fst.length : Int) != (↑(tilesR n (s.fst, s.snd.fst, s.snd.snd.fst, s.snd.snd.snd.fst, s.snd.snd.snd.snd.fst, s.snd.snd.snd.snd.snd)).fst.length : Int)) →
  Br a (post (Bool.false, ())) (HIs [HObj.box Md.rw ty25 [SV.data (K.flt Go.FloatKind.f64).slice s.fst, SV.data (K.int IntKind.i64).slice s.snd.fst, SV.data (K.int
  IntKind.i64).slice s.snd.snd.fst, SV.data (K.flt Go.FloatKind.f64).slice s.snd.snd.snd.fst, SV.val (Go.Value.int IntKind.i64 s.snd.snd.snd.snd.fst), SV.val (Go.Value.int
  IntKind.i64 s.snd.snd.snd.snd.snd)]] [HObj.box Md.rw ty25 [SV.data (K.flt Go.FloatKind.f64).slice s.fst, SV.data (K.int IntKind.i64).slice s.snd.fst, SV.data (K.int
  IntKind.i64).slice s.snd.snd.fst, SV.data (K.flt Go.FloatKind.f64).slice s.snd.snd.snd.fst, SV.val (Go.Value.int IntKind.i64 s.snd.snd.snd.snd.fst), SV.val (Go.Value.int
  IntKind.i64 s.snd.snd.snd.snd.snd)]] ∧ ∃ (I : Int × Unit → Unit → Prop), ∃ (μ : Int × Unit → Unit → Nat), I ((0 : Int), ()) () ∧ ∀ (x : Int × Unit) (y : Unit), I x y → ∀ (a :
  Bool), a = decide (x.fst < (↑(tilesR n (s.fst, s.snd.fst, s.snd.snd.fst, s.snd.snd.snd.fst, s.snd.snd.snd.snd.fst, s.snd.snd.snd.snd.snd)).fst.length : Int)) → Br a (∃ (h : (0 :
  Int) ≤ x.fst ∧ x.fst < (↑(tilesR n (s.fst, s.snd.fst, s.snd.snd.fst, s.snd.snd.snd.fst, s.snd.snd.snd.snd.fst, s.snd.snd.snd.snd.snd)).fst.length : Int)), ∃ (h : (0 : Int) ≤ x.fst
  ∧ x.fst < (↑(tilesR n (s.fst, s.snd.fst, s.snd.snd.fst, s.snd.snd.snd.fst, s.snd.snd.snd.snd.fst, s.snd.snd.snd.snd.snd)).fst.length : Int)), ∃ (h : True), ∀ (a : Bool), a =
  (sameTR ((tilesR n (s.fst, s.snd.fst, s.snd.snd.fst, s.snd.snd.snd.fst, s.snd.snd.snd.snd.fst, s.snd.snd.snd.snd.snd)).fst.getD x.fst.toNat kTile.dflt) ((tilesR n (s.fst,
  s.snd.fst, s.snd.snd.fst, s.snd.snd.snd.fst, s.snd.snd.snd.snd.fst, s.snd.snd.snd.snd.snd)).fst.getD x.fst.toNat kTile.dflt)).fst → Br (!a) (post (Bool.false, ())) (HIs [HObj.box
  Md.rw ty25 [SV.data (K.flt Go.FloatKind.f64).slice s.fst, SV.data (K.int IntKind.i64).slice s.snd.fst, SV.data (K.int IntKind.i64).slice s.snd.snd.fst, SV.data (K.flt
  Go.FloatKind.f64).slice s.snd.snd.snd.fst, SV.val (Go.Value.int IntKind.i64 s.snd.snd.snd.snd.fst), SV.val (Go.Value.int IntKind.i64 s.snd.snd.snd.snd.snd)]] [HObj.box Md.rw ty25
  [SV.data (K.flt Go.FloatKind.f64).slice s.fst, SV.data (K.int IntKind.i64).slice s.snd.fst, SV.data (K.int IntKind.i64).slice s.snd.snd.fst, SV.data (K.flt Go.FloatKind.f64).slice
  s.snd.snd.snd.fst, SV.val (Go.Value.int IntKind.i64 s.snd.snd.snd.snd.fst), SV.val (Go.Value.int IntKind.i64 s.snd.snd.snd.snd.snd)]] ∧ I (IntKind.i64.wrap (x.fst + (1 : Int)),
  ()) () ∧ μ (IntKind.i64.wrap (x.fst + (1 : Int)), ()) () < μ x y)) (post (Bool.true, ())))))
theorem Lx_law24_TileSeas (ty0 : Nat) (n : Int) (s : (List Nat) × (List Int) × (List Int) × (List Nat) × Int × Int) (h : WCheck n s) (w : KS.wf [.int .i64, kSea] (n, s, ())) : Fx_law24_TileSeas ty0 n s (fun r => r = trueR2 n s) := by
  have hT : (tilesR n s).1.length ≤ 6 := by
    by_cases q : (checkI n s).2 = 0
    · rw [tiles_ok q]; show ((List.range 6).map (tileF n s)).length ≤ 6; rw [List.length_map, List.length_range]; omega
    · rw [tiles_err q]; exact Nat.zero_le _
  refine ⟨trivial, ?_⟩
  rintro _ rfl
  refine Br.intro (fun e => by cases e) fun _ => ⟨h, h, ?_⟩
  have es : (s.fst, s.snd.fst, s.snd.snd.fst, s.snd.snd.snd.fst, s.snd.snd.snd.snd.fst, s.snd.snd.snd.snd.snd) = s := rfl
  rw [es]
  generalize tilesR n s = X at *
  refine named_false (by simp) (named_false (by simp) ⟨rfl, fun x _ => ∃ i : Nat, x.1 = i ∧ i ≤ X.1.length, fun x _ => X.1.length - x.1.toNat, ⟨0, rfl, by omega⟩, ?_⟩)
  rintro ⟨_, ⟨⟩⟩ _ ⟨i, rfl, hi⟩
  dsimp only
  rintro _ rfl
  refine Br.intro (fun e => ?_) fun _ => rfl
  have e : i < X.1.length := by have := of_decide_eq_true e; omega
  refine ⟨⟨by omega, by omega⟩, ⟨by omega, by omega⟩, trivial, ?_⟩
  intro z hz
  have hz : z = true := hz.trans (decide_eq_true rfl)
  rw [hz, wi_succ e (by omega)]
  exact Br.intro (fun e => by cases e) fun _ => ⟨rfl, ⟨i + 1, rfl, by omega⟩, by omega⟩
end Go.Lift

/- Own work. -/
set_option linter.unusedVariables false
set_option linter.unusedSimpArgs false
namespace Go.Lift
def Fx_law24_same := fun (ty25 : Nat) (a b : Int × Int × Int × List Int) (post : Bool × Unit → Prop) => ∀ (a_1 : Bool), a_1 = (a.fst != b.fst) → Br a_1 (post (Bool.false, ())) (∀
  (a_2 : Bool), a_2 = (a.snd.fst != b.snd.fst) → Br a_2 (post (Bool.false, ())) (∀ (a_3 : Bool), a_3 = (a.snd.snd.fst != b.snd.snd.fst) → Br a_3 (post (Bool.false, ())) (∀ (a_4 :
  Bool), a_4 = ((↑a.snd.snd.snd.length : Int) != (↑b.snd.snd.snd.length : Int)) → Br a_4 (post (Bool.false, ())) (HIs [HObj.box Md.rw ty25 [SV.val (Go.Value.int IntKind.i64 a.fst),
  SV.val (Go.Value.int IntKind.u32 a.snd.fst), SV.val (Go.Value.int IntKind.u32 a.snd.snd.fst), SV.data (K.int IntKind.u32).slice a.snd.snd.snd], HObj.box Md.rw ty25 [SV.val
  (Go.Value.int IntKind.i64 b.fst), SV.val (Go.Value.int IntKind.u32 b.snd.fst), SV.val (Go.Value.int IntKind.u32 b.snd.snd.fst), SV.data (K.int IntKind.u32).slice b.snd.snd.snd]]
  [HObj.box Md.rw ty25 [SV.val (Go.Value.int IntKind.i64 a.fst), SV.val (Go.Value.int IntKind.u32 a.snd.fst), SV.val (Go.Value.int IntKind.u32 a.snd.snd.fst), SV.data (K.int
  IntKind.u32).slice a.snd.snd.snd], HObj.box Md.rw ty25 [SV.val (Go.Value.int IntKind.i64 b.fst), SV.val (Go.Value.int IntKind.u32 b.snd.fst), SV.val (Go.Value.int IntKind.u32
  b.snd.snd.fst), SV.data (K.int IntKind.u32).slice b.snd.snd.snd]] ∧ ∃ (I : Int × Unit → Unit → Prop), ∃ (μ : Int × Unit → Unit → Nat), I ((0 : Int), ()) () ∧ ∀ (x : Int × Unit) (y
  : Unit), I x y → ∀ (a_5 : Bool), a_5 = decide (x.fst < (↑a.snd.snd.snd.length : Int)) → Br a_5 (∃ (h : (0 : Int) ≤ x.fst ∧ x.fst < (↑a.snd.snd.snd.length : Int)), ∃ (h : (0 : Int)
  ≤ x.fst ∧ x.fst < (↑b.snd.snd.snd.length : Int)), ∀ (a_6 : Bool), a_6 = (a.snd.snd.snd.getD x.fst.toNat (0 : Int) != b.snd.snd.snd.getD x.fst.toNat (0 : Int)) → Br a_6 (post
  (Bool.false, ())) (HIs [HObj.box Md.rw ty25 [SV.val (Go.Value.int IntKind.i64 a.fst), SV.val (Go.Value.int IntKind.u32 a.snd.fst), SV.val (Go.Value.int IntKind.u32 a.snd.snd.fst),
  SV.data (K.int IntKind.u32).slice a.snd.snd.snd], HObj.box Md.rw ty25 [SV.val (Go.Value.int IntKind.i64 b.fst), SV.val (Go.Value.int IntKind.u32 b.snd.fst), SV.val (Go.Value.int
  IntKind.u32 b.snd.snd.fst), SV.data (K.int IntKind.u32).slice b.snd.snd.snd]] [HObj.box Md.rw ty25 [SV.val (Go.Value.int IntKind.i64 a.fst), SV.val (Go.Value.int IntKind.u32
  a.snd.fst), SV.val (Go.Value.int IntKind.u32 a.snd.snd.fst), SV.data (K.int IntKind.u32).slice a.snd.snd.snd], HObj.box Md.rw ty25 [SV.val (Go.Value.int IntKind.i64 b.fst), SV.val
  (Go.Value.int IntKind.u32 b.snd.fst), SV.val (Go.Value.int IntKind.u32 b.snd.snd.fst), SV.data (K.int IntKind.u32).slice b.snd.snd.snd]] ∧ I (IntKind.i64.wrap (x.fst + (1 : Int)),
  ()) () ∧ μ (IntKind.i64.wrap (x.fst + (1 : Int)), ()) () < μ x y)) (post (Bool.true, ()))))))
theorem Lx_law24_same (ty0 : Nat) (a : Int × Int × Int × List Int) (b : Int × Int × Int × List Int) (w : KS.wf [kTile, kTile] (a, b, ())) : Fx_law24_same ty0 a b (fun r => r = sameTR a b) := by
  have hl : a.2.2.2.length ≤ maxN := w.1.2.2.2.1
  unfold maxN at hl
  have no : a ≠ b → (false, ()) = sameTR a b := fun q => congrArg r1 (decide_eq_false q).symm
  rintro _ rfl
  refine Br.intro (fun e => no fun q => bne_int.1 e (by rw [q])) fun e => ?_
  have e0 := bne_int.2 e
  rintro _ rfl
  refine Br.intro (fun e => no fun q => bne_int.1 e (by rw [q])) fun e => ?_
  have e1 := bne_int.2 e
  rintro _ rfl
  refine Br.intro (fun e => no fun q => bne_int.1 e (by rw [q])) fun e => ?_
  have e2 := bne_int.2 e
  rintro _ rfl
  refine Br.intro (fun e => no fun q => bne_int.1 e (by rw [q])) fun e => ?_
  have e3 : a.2.2.2.length = b.2.2.2.length := by have := bne_int.2 e; omega
  refine ⟨rfl, fun x _ => ∃ i : Nat, x.1 = i ∧ i ≤ a.2.2.2.length ∧ a.2.2.2.take i = b.2.2.2.take i, fun x _ => a.2.2.2.length - x.1.toNat, ⟨0, rfl, by omega, rfl⟩, ?_⟩
  rintro ⟨_, ⟨⟩⟩ _ ⟨i, rfl, hil, hi⟩
  dsimp only
  rintro _ rfl
  refine Br.intro (fun e => ?_) fun e => ?_
  · have e : i < a.2.2.2.length := by have := of_decide_eq_true e; omega
    refine ⟨⟨by omega, by omega⟩, ⟨by omega, by omega⟩, ?_⟩
    rw [Int.toNat_natCast, wi_succ e (by omega)]
    rintro _ rfl
    refine Br.intro (fun f => no fun q => bne_int.1 f (by rw [q])) fun f => ?_
    have f := bne_int.2 f
    exact ⟨rfl, ⟨i + 1, rfl, by omega, by rw [take_step e 0, take_step (by omega) 0, hi, f]⟩, by omega⟩
  · have e : ¬ i < a.2.2.2.length := by have := of_decide_eq_false e; omega
    rw [List.take_of_length_le (by omega), List.take_of_length_le (by omega)] at hi
    refine congrArg r1 (decide_eq_true ?_).symm
    obtain ⟨a0, a1, a2, a3⟩ := a
    obtain ⟨b0, b1, b2, b3⟩ := b
    dsimp only at e0 e1 e2 hi
    rw [e0, e1, e2, hi]
def Fx_law24_four := fun (post : (Int × Int × Int × List Int) × Unit → Prop) => post (((5 : Int), (0 : Int), (1073741824 : Int), [(1065353216 : Int), (1073741824 : Int), (0 : Int),
  (1065353216 : Int)]), ())
theorem Lx_law24_four  : Fx_law24_four   (fun r => r = fourR) := by
  exact rfl
def Fx_law24_awake := fun (post : Bool × Unit → Prop) => ∃ (h : True), ∃ (h : TiOk fourR.fst), ∃ (h : BLs [(84 : Int), (73 : Int), (76 : Int), (69 : Int), fourR.fst.fst, rootI
  (↑fourR.fst.snd.snd.snd.length : Int), fourR.fst.snd.fst % (256 : Int), fourR.fst.snd.fst / (256 : Int) % (256 : Int), fourR.fst.snd.fst / (65536 : Int) % (256 : Int),
  fourR.fst.snd.fst / (16777216 : Int) % (256 : Int), fourR.fst.snd.snd.fst % (256 : Int), fourR.fst.snd.snd.fst / (256 : Int) % (256 : Int), fourR.fst.snd.snd.fst / (65536 : Int) %
  (256 : Int), fourR.fst.snd.snd.fst / (16777216 : Int) % (256 : Int), xorI (1065353216 : Int) (0 : Int) % (256 : Int), xorI (1065353216 : Int) (0 : Int) / (256 : Int) % (256 :
  Int), xorI (1065353216 : Int) (0 : Int) / (65536 : Int) % (256 : Int), xorI (1065353216 : Int) (0 : Int) / (16777216 : Int) % (256 : Int), xorI (1073741824 : Int) (1065353216 :
  Int) % (256 : Int), xorI (1073741824 : Int) (1065353216 : Int) / (256 : Int) % (256 : Int), xorI (1073741824 : Int) (1065353216 : Int) / (65536 : Int) % (256 : Int), xorI
  (1073741824 : Int) (1065353216 : Int) / (16777216 : Int) % (256 : Int), xorI (0 : Int) (1073741824 : Int) % (256 : Int), xorI (0 : Int) (1073741824 : Int) / (256 : Int) % (256 :
  Int), xorI (0 : Int) (1073741824 : Int) / (65536 : Int) % (256 : Int), xorI (0 : Int) (1073741824 : Int) / (16777216 : Int) % (256 : Int), xorI (1065353216 : Int) (0 : Int) % (256
  : Int), xorI (1065353216 : Int) (0 : Int) / (256 : Int) % (256 : Int), xorI (1065353216 : Int) (0 : Int) / (65536 : Int) % (256 : Int), xorI (1065353216 : Int) (0 : Int) /
  (16777216 : Int) % (256 : Int)]), ∃ (h : BLs []), ∃ (h : (0 : Int) ≤ (6 : Int) ∧ (6 : Int) ≤ (6 : Int) ∧ (6 : Int) * (↑(8 : Nat) : Int) ≤ (281474976710656 : Int)), ∃ (h : (0 :
  Int) ≤ (6 : Int) ∧ (6 : Int) ≤ (6 : Int) ∧ (6 : Int) * (↑(8 : Nat) : Int) ≤ (281474976710656 : Int)), ∃ (h : (0 : Int) ≤ (12 : Int) ∧ (12 : Int) ≤ (12 : Int) ∧ (12 : Int) * (↑(8 :
  Nat) : Int) ≤ (281474976710656 : Int)), ∃ (h : WCheck (1 : Int) ([(0 : Nat), (0 : Nat), (0 : Nat), (0 : Nat), (0 : Nat), (0 : Nat)], [(1431655765 : Int), (0 : Int), (0 : Int), (0
  : Int), (0 : Int), (0 : Int)], [(0 : Int), (0 : Int), (0 : Int), (0 : Int), (0 : Int), (0 : Int)], [(0 : Nat), (0 : Nat), (0 : Nat), (0 : Nat), (0 : Nat), (0 : Nat), (0 : Nat), (0
  : Nat), (0 : Nat), (0 : Nat), (0 : Nat), (0 : Nat)], (0 : Int), (0 : Int))), ∀ (a : Bool), a = ((encodeR fourR.fst).snd.fst == (0 : Int)) → Br a (∀ (a : Bool), (a = if Bool.false
  = Bool.true then !decide (List.map byteOf [(84 : Int), (73 : Int), (76 : Int), (69 : Int), fourR.fst.fst, rootI (↑fourR.fst.snd.snd.snd.length : Int), fourR.fst.snd.fst % (256 :
  Int), fourR.fst.snd.fst / (256 : Int) % (256 : Int), fourR.fst.snd.fst / (65536 : Int) % (256 : Int), fourR.fst.snd.fst / (16777216 : Int) % (256 : Int), fourR.fst.snd.snd.fst %
  (256 : Int), fourR.fst.snd.snd.fst / (256 : Int) % (256 : Int), fourR.fst.snd.snd.fst / (65536 : Int) % (256 : Int), fourR.fst.snd.snd.fst / (16777216 : Int) % (256 : Int), xorI
  (1065353216 : Int) (0 : Int) % (256 : Int), xorI (1065353216 : Int) (0 : Int) / (256 : Int) % (256 : Int), xorI (1065353216 : Int) (0 : Int) / (65536 : Int) % (256 : Int), xorI
  (1065353216 : Int) (0 : Int) / (16777216 : Int) % (256 : Int), xorI (1073741824 : Int) (1065353216 : Int) % (256 : Int), xorI (1073741824 : Int) (1065353216 : Int) / (256 : Int) %
  (256 : Int), xorI (1073741824 : Int) (1065353216 : Int) / (65536 : Int) % (256 : Int), xorI (1073741824 : Int) (1065353216 : Int) / (16777216 : Int) % (256 : Int), xorI (0 : Int)
  (1073741824 : Int) % (256 : Int), xorI (0 : Int) (1073741824 : Int) / (256 : Int) % (256 : Int), xorI (0 : Int) (1073741824 : Int) / (65536 : Int) % (256 : Int), xorI (0 : Int)
  (1073741824 : Int) / (16777216 : Int) % (256 : Int), xorI (1065353216 : Int) (0 : Int) % (256 : Int), xorI (1065353216 : Int) (0 : Int) / (256 : Int) % (256 : Int), xorI
  (1065353216 : Int) (0 : Int) / (65536 : Int) % (256 : Int), xorI (1065353216 : Int) (0 : Int) / (16777216 : Int) % (256 : Int)] = strBytes { data := #[(84 : UInt8), (73 : UInt8),
  (76 : UInt8), (69 : UInt8), (5 : UInt8), (2 : UInt8), (0 : UInt8), (0 : UInt8), (0 : UInt8), (0 : UInt8), (0 : UInt8), (0 : UInt8), (0 : UInt8), (64 : UInt8), (0 : UInt8), (0 :
  UInt8), (128 : UInt8), (63 : UInt8), (0 : UInt8), (0 : UInt8), (128 : UInt8), (127 : UInt8), (0 : UInt8), (0 : UInt8), (0 : UInt8), (64 : UInt8), (0 : UInt8), (0 : UInt8), (128 :
  UInt8), (63 : UInt8)] }) else decide (List.map byteOf [(84 : Int), (73 : Int), (76 : Int), (69 : Int), fourR.fst.fst, rootI (↑fourR.fst.snd.snd.snd.length : Int),
  fourR.fst.snd.fst % (256 : Int), fourR.fst.snd.fst / (256 : Int) % (256 : Int), fourR.fst.snd.fst / (65536 : Int) % (256 : Int), fourR.fst.snd.fst / (16777216 : Int) % (256 :
  Int), fourR.fst.snd.snd.fst % (256 : Int), fourR.fst.snd.snd.fst / (256 : Int) % (256 : Int), fourR.fst.snd.snd.fst / (65536 : Int) % (256 : Int), fourR.fst.snd.snd.fst /
  (16777216 : Int) % (256 : Int), xorI (1065353216 : Int) (0 : Int) % (256 : Int), xorI (1065353216 : Int) (0 : Int) / (256 : Int) % (256 : Int), xorI (1065353216 : Int) (0 : Int) /
  (65536 : Int) % (256 : Int), xorI (1065353216 : Int) (0 : Int) / (16777216 : Int) % (256 : Int), xorI (1073741824 : Int) (1065353216 : Int) % (256 : Int), xorI (1073741824 : Int)
  (1065353216 : Int) / (256 : Int) % (256 : Int), xorI (1073741824 : Int) (1065353216 : Int) / (65536 : Int) % (256 : Int), xorI (1073741824 : Int) (1065353216 : Int) / (16777216 :
  Int) % (256 : Int), xorI (0 : Int) (1073741824 : Int) % (256 : Int), xorI (0 : Int) (1073741824 : Int) / (256 : Int) % (256 : Int), xorI (0 : Int) (1073741824 : Int) / (65536 :
  Int) % (256 : Int), xorI (0 : Int) (1073741824 : Int) / (16777216 : Int) % (256 : Int), xorI (1065353216 : Int) (0 : Int) % (256 : Int), xorI (1065353216 : Int) (0 : Int) / (256 :
  Int) % (256 : Int), xorI (1065353216 : Int) (0 : Int) / (65536 : Int) % (256 : Int), xorI (1065353216 : Int) (0 : Int) / (16777216 : Int) % (256 : Int)] = strBytes { data := #[(84
  : UInt8), (73 : UInt8), (76 : UInt8), (69 : UInt8), (5 : UInt8), (2 : UInt8), (0 : UInt8), (0 : UInt8), (0 : UInt8), (0 : UInt8), (0 : UInt8), (0 : UInt8), (0 : UInt8), (64 :
  UInt8), (0 : UInt8), (0 : UInt8), (128 : UInt8), (63 : UInt8), (0 : UInt8), (0 : UInt8), (128 : UInt8), (127 : UInt8), (0 : UInt8), (0 : UInt8), (0 : UInt8), (64 : UInt8), (0 :
  UInt8), (0 : UInt8), (128 : UInt8), (63 : UInt8)] })) → Br a (∀ (a : Bool), a = ((decodeR [(84 : Int), (73 : Int), (76 : Int), (69 : Int), fourR.fst.fst, rootI
  (↑fourR.fst.snd.snd.snd.length : Int), fourR.fst.snd.fst % (256 : Int), fourR.fst.snd.fst / (256 : Int) % (256 : Int), fourR.fst.snd.fst / (65536 : Int) % (256 : Int),
  fourR.fst.snd.fst / (16777216 : Int) % (256 : Int), fourR.fst.snd.snd.fst % (256 : Int), fourR.fst.snd.snd.fst / (256 : Int) % (256 : Int), fourR.fst.snd.snd.fst / (65536 : Int) %
  (256 : Int), fourR.fst.snd.snd.fst / (16777216 : Int) % (256 : Int), xorI (1065353216 : Int) (0 : Int) % (256 : Int), xorI (1065353216 : Int) (0 : Int) / (256 : Int) % (256 :
  Int), xorI (1065353216 : Int) (0 : Int) / (65536 : Int) % (256 : Int), xorI (1065353216 : Int) (0 : Int) / (16777216 : Int) % (256 : Int), xorI (1073741824 : Int) (1065353216 :
  Int) % (256 : Int), xorI (1073741824 : Int) (1065353216 : Int) / (256 : Int) % (256 : Int), xorI (1073741824 : Int) (1065353216 : Int) / (65536 : Int) % (256 : Int), xorI
  (1073741824 : Int) (1065353216 : Int) / (16777216 : Int) % (256 : Int), xorI (0 : Int) (1073741824 : Int) % (256 : Int), xorI (0 : Int) (1073741824 : Int) / (256 : Int) % (256 :
  Int), xorI (0 : Int) (1073741824 : Int) / (65536 : Int) % (256 : Int), xorI (0 : Int) (1073741824 : Int) / (16777216 : Int) % (256 : Int), xorI (1065353216 : Int) (0 : Int) % (256
  : Int), xorI (1065353216 : Int) (0 : Int) / (256 : Int) % (256 : Int), xorI (1065353216 : Int) (0 : Int) / (65536 : Int) % (256 : Int), xorI (1065353216 : Int) (0 : Int) /
  (16777216 : Int) % (256 : Int)]).snd.fst == (0 : Int)) → Br a (∃ (h : True), ∃ (h : True), ∀ (a : Bool), a = (sameTR ((decodeR [(84 : Int), (73 : Int), (76 : Int), (69 : Int),
  fourR.fst.fst, rootI (↑fourR.fst.snd.snd.snd.length : Int), fourR.fst.snd.fst % (256 : Int), fourR.fst.snd.fst / (256 : Int) % (256 : Int), fourR.fst.snd.fst / (65536 : Int) %
  (256 : Int), fourR.fst.snd.fst / (16777216 : Int) % (256 : Int), fourR.fst.snd.snd.fst % (256 : Int), fourR.fst.snd.snd.fst / (256 : Int) % (256 : Int), fourR.fst.snd.snd.fst /
  (65536 : Int) % (256 : Int), fourR.fst.snd.snd.fst / (16777216 : Int) % (256 : Int), xorI (1065353216 : Int) (0 : Int) % (256 : Int), xorI (1065353216 : Int) (0 : Int) / (256 :
  Int) % (256 : Int), xorI (1065353216 : Int) (0 : Int) / (65536 : Int) % (256 : Int), xorI (1065353216 : Int) (0 : Int) / (16777216 : Int) % (256 : Int), xorI (1073741824 : Int)
  (1065353216 : Int) % (256 : Int), xorI (1073741824 : Int) (1065353216 : Int) / (256 : Int) % (256 : Int), xorI (1073741824 : Int) (1065353216 : Int) / (65536 : Int) % (256 : Int),
  xorI (1073741824 : Int) (1065353216 : Int) / (16777216 : Int) % (256 : Int), xorI (0 : Int) (1073741824 : Int) % (256 : Int), xorI (0 : Int) (1073741824 : Int) / (256 : Int) %
  (256 : Int), xorI (0 : Int) (1073741824 : Int) / (65536 : Int) % (256 : Int), xorI (0 : Int) (1073741824 : Int) / (16777216 : Int) % (256 : Int), xorI (1065353216 : Int) (0 : Int)
  % (256 : Int), xorI (1065353216 : Int) (0 : Int) / (256 : Int) % (256 : Int), xorI (1065353216 : Int) (0 : Int) / (65536 : Int) % (256 : Int), xorI (1065353216 : Int) (0 : Int) /
  (16777216 : Int) % (256 : Int)]).fst.fst, (decodeR [(84 : Int), (73 : Int), (76 : Int), (69 : Int), fourR.fst.fst, rootI (↑fourR.fst.snd.snd.snd.length : Int), fourR.fst.snd.fst %
  (256 : Int), fourR.fst.snd.fst / (256 : Int) % (256 : Int), fourR.fst.snd.fst / (65536 : Int) % (256 : Int), fourR.fst.snd.fst / (16777216 : Int) % (256 : Int),
  fourR.fst.snd.snd.fst % (256 : Int), fourR.fst.snd.snd.fst / (256 : Int) % (256 : Int), fourR.fst.snd.snd.fst / (65536 : Int) % (256 : Int), fourR.fst.snd.snd.fst / (16777216 :
  Int) % (256 : Int), xorI (1065353216 : Int) (0 : Int) % (256 : Int), xorI (1065353216 : Int) (0 : Int) / (256 : Int) % (256 : Int), xorI (1065353216 : Int) (0 : Int) / (65536 :
  Int) % (256 : Int), xorI (1065353216 : Int) (0 : Int) / (16777216 : Int) % (256 : Int), xorI (1073741824 : Int) (1065353216 : Int) % (256 : Int), xorI (1073741824 : Int)
  (1065353216 : Int) / (256 : Int) % (256 : Int), xorI (1073741824 : Int) (1065353216 : Int) / (65536 : Int) % (256 : Int), xorI (1073741824 : Int) (1065353216 : Int) / (16777216 :
  Int) % (256 : Int), xorI (0 : Int) (1073741824 : Int) % (256 : Int), xorI (0 : Int) (1073741824 : Int) / (256 : Int) % (256 : Int), xorI (0 : Int) (1073741824 : Int) / (65536 :
  Int) % (256 : Int), xorI (0 : Int) (1073741824 : Int) / (16777216 : Int) % (256 : Int), xorI (1065353216 : Int) (0 : Int) % (256 : Int), xorI (1065353216 : Int) (0 : Int) / (256 :
  Int) % (256 : Int), xorI (1065353216 : Int) (0 : Int) / (65536 : Int) % (256 : Int), xorI (1065353216 : Int) (0 : Int) / (16777216 : Int) % (256 : Int)]).fst.snd.fst, (decodeR
  [(84 : Int), (73 : Int), (76 : Int), (69 : Int), fourR.fst.fst, rootI (↑fourR.fst.snd.snd.snd.length : Int), fourR.fst.snd.fst % (256 : Int), fourR.fst.snd.fst / (256 : Int) %
  (256 : Int), fourR.fst.snd.fst / (65536 : Int) % (256 : Int), fourR.fst.snd.fst / (16777216 : Int) % (256 : Int), fourR.fst.snd.snd.fst % (256 : Int), fourR.fst.snd.snd.fst / (256
  : Int) % (256 : Int), fourR.fst.snd.snd.fst / (65536 : Int) % (256 : Int), fourR.fst.snd.snd.fst / (16777216 : Int) % (256 : Int), xorI (1065353216 : Int) (0 : Int) % (256 : Int),
  xorI (1065353216 : Int) (0 : Int) / (256 : Int) % (256 : Int), xorI (1065353216 : Int) (0 : Int) / (65536 : Int) % (256 : Int), xorI (1065353216 : Int) (0 : Int) / (16777216 :
  Int) % (256 : Int), xorI (1073741824 : Int) (1065353216 : Int) % (256 : Int), xorI (1073741824 : Int) (1065353216 : Int) / (256 : Int) % (256 : Int), xorI (1073741824 : Int)
  (1065353216 : Int) / (65536 : Int) % (256 : Int), xorI (1073741824 : Int) (1065353216 : Int) / (16777216 : Int) % (256 : Int), xorI (0 : Int) (1073741824 : Int) % (256 : Int),
  xorI (0 : Int) (1073741824 : Int) / (256 : Int) % (256 : Int), xorI (0 : Int) (1073741824 : Int) / (65536 : Int) % (256 : Int), xorI (0 : Int) (1073741824 : Int) / (16777216 :
  Int) % (256 : Int), xorI (1065353216 : Int) (0 : Int) % (256 : Int), xorI (1065353216 : Int) (0 : Int) / (256 : Int) % (256 : Int), xorI (1065353216 : Int) (0 : Int) / (65536 :
  Int) % (256 : Int), xorI (1065353216 : Int) (0 : Int) / (16777216 : Int) % (256 : Int)]).fst.snd.snd.fst, (decodeR [(84 : Int), (73 : Int), (76 : Int), (69 : Int), fourR.fst.fst,
  rootI (↑fourR.fst.snd.snd.snd.length : Int), fourR.fst.snd.fst % (256 : Int), fourR.fst.snd.fst / (256 : Int) % (256 : Int), fourR.fst.snd.fst / (65536 : Int) % (256 : Int),
  fourR.fst.snd.fst / (16777216 : Int) % (256 : Int), fourR.fst.snd.snd.fst % (256 : Int), fourR.fst.snd.snd.fst / (256 : Int) % (256 : Int), fourR.fst.snd.snd.fst / (65536 : Int) %
  (256 : Int), fourR.fst.snd.snd.fst / (16777216 : Int) % (256 : Int), xorI (1065353216 : Int) (0 : Int) % (256 : Int), xorI (1065353216 : Int) (0 : Int) / (256 : Int) % (256 :
  Int), xorI (1065353216 : Int) (0 : Int) / (65536 : Int) % (256 : Int), xorI (1065353216 : Int) (0 : Int) / (16777216 : Int) % (256 : Int), xorI (1073741824 : Int) (1065353216 :
  Int) % (256 : Int), xorI (1073741824 : Int) (1065353216 : Int) / (256 : Int) % (256 : Int), xorI (1073741824 : Int) (1065353216 : Int) / (65536 : Int) % (256 : Int), xorI
  (1073741824 : Int) (1065353216 : Int) / (16777216 : Int) % (256 : Int), xorI (0 : Int) (1073741824 : Int) % (256 : Int), xorI (0 : Int) (1073741824 : Int) / (256 : Int) % (256 :
  Int), xorI (0 : Int) (1073741824 : Int) / (65536 : Int) % (256 : Int), xorI (0 : Int) (1073741824 : Int) / (16777216 : Int) % (256 : Int), xorI (1065353216 : Int) (0 : Int) % (256
  : Int), xorI (1065353216 : Int) (0 : Int) / (256 : Int) % (256 : Int), xorI (1065353216 : Int) (0 : Int) / (65536 : Int) % (256 : Int), xorI (1065353216 : Int) (0 : Int) /
  (16777216 : Int) % (256 : Int)]).fst.snd.snd.snd) fourR.fst).fst → Br a (∀ (a : Bool), a = ((decodeR []).snd.fst == (31 : Int)) → Br a (∀ (a : Bool), a = ((tilesR (1 : Int) ([(0 :
  Nat), (0 : Nat), (0 : Nat), (0 : Nat), (0 : Nat), (0 : Nat)], [(1431655765 : Int), (0 : Int), (0 : Int), (0 : Int), (0 : Int), (0 : Int)], [(0 : Int), (0 : Int), (0 : Int), (0 :
  Int), (0 : Int), (0 : Int)], [(0 : Nat), (0 : Nat), (0 : Nat), (0 : Nat), (0 : Nat), (0 : Nat), (0 : Nat), (0 : Nat), (0 : Nat), (0 : Nat), (0 : Nat), (0 : Nat)], (0 : Int), (0 :
  Int))).snd.fst == (0 : Int)) → Br a (∀ (a : Bool), a = ((↑(tilesR (1 : Int) ([(0 : Nat), (0 : Nat), (0 : Nat), (0 : Nat), (0 : Nat), (0 : Nat)], [(1431655765 : Int), (0 : Int), (0
  : Int), (0 : Int), (0 : Int), (0 : Int)], [(0 : Int), (0 : Int), (0 : Int), (0 : Int), (0 : Int), (0 : Int)], [(0 : Nat), (0 : Nat), (0 : Nat), (0 : Nat), (0 : Nat), (0 : Nat), (0
  : Nat), (0 : Nat), (0 : Nat), (0 : Nat), (0 : Nat), (0 : Nat)], (0 : Int), (0 : Int))).fst.length : Int) == (6 : Int)) → Br a (∃ (h : (0 : Int) ≤ (0 : Int) ∧ (0 : Int) < (↑(tilesR
  (1 : Int) ([(0 : Nat), (0 : Nat), (0 : Nat), (0 : Nat), (0 : Nat), (0 : Nat)], [(1431655765 : Int), (0 : Int), (0 : Int), (0 : Int), (0 : Int), (0 : Int)], [(0 : Int), (0 : Int),
  (0 : Int), (0 : Int), (0 : Int), (0 : Int)], [(0 : Nat), (0 : Nat), (0 : Nat), (0 : Nat), (0 : Nat), (0 : Nat), (0 : Nat), (0 : Nat), (0 : Nat), (0 : Nat), (0 : Nat), (0 : Nat)],
  (0 : Int), (0 : Int))).fst.length : Int)), ∀ (a : Bool), a = (((tilesR (1 : Int) ([(0 : Nat), (0 : Nat), (0 : Nat), (0 : Nat), (0 : Nat), (0 : Nat)], [(1431655765 : Int), (0 :
  Int), (0 : Int), (0 : Int), (0 : Int), (0 : Int)], [(0 : Int), (0 : Int), (0 : Int), (0 : Int), (0 : Int), (0 : Int)], [(0 : Nat), (0 : Nat), (0 : Nat), (0 : Nat), (0 : Nat), (0 :
  Nat), (0 : Nat), (0 : Nat), (0 : Nat), (0 : Nat), (0 : Nat), (0 : Nat)], (0 : Int), (0 : Int))).fst.getD (Int.toNat (0 : Int)) kTile.dflt).snd.snd.fst == (1065353216 : Int)) →
  post (a, ())) (post (Bool.false, ()))) (post (Bool.false, ()))) (post (Bool.false, ()))) (post (Bool.false, ()))) (post (Bool.false, ()))) (post (Bool.false, ()))) (post
  (Bool.false, ()))
theorem Lx_law24_awake  : Fx_law24_awake   (fun r => r = trueR0) := by
  refine ⟨trivial, ⟨⟨by decide, by decide⟩, ⟨by decide, by decide⟩, ⟨by decide, by decide⟩, ?_⟩, ?_, (fun x hx => by cases hx), ⟨by decide, by decide, by decide⟩, ⟨by decide, by decide, by decide⟩, ⟨by decide, by decide, by decide⟩, ?_, ?_⟩
  · intro x hx
    have : fourR.1.2.2.2 = [1065353216, 1073741824, 0, 1065353216] := rfl
    rw [this] at hx
    have q : ∀ x ∈ ([1065353216, 1073741824, 0, 1065353216] : List Int), 0 ≤ x ∧ x < 4294967296 := by decide
    exact q x hx
  · unfold BLs U8; decide +kernel
  · refine ⟨⟨by decide, by decide⟩, ?_, ?_, ?_, ?_, ⟨by decide, by decide⟩, ⟨by decide, by decide⟩⟩
    · unfold WL W64; decide
    · unfold I64; decide
    · unfold I64; decide
    · unfold WL W64; decide
  refine named_true (by decide +kernel) (named_true (by decide +kernel) (named_true (by decide +kernel) ⟨trivial, trivial, named_true (by decide +kernel) (named_true (by decide +kernel) (named_true (by decide +kernel) (named_true (by decide +kernel) ⟨by decide +kernel, ?_⟩)))⟩))
  intro a ha
  exact congrArg r1 (ha.trans (by decide +kernel))
end Go.Lift
