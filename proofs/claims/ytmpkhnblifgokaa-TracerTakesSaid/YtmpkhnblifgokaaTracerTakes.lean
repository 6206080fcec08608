/- For all water, all tracer and all lists of outs, tracer.Takes answers what the document's Takes answers: TracerTakes returns true. No condition. -/
import Derived.OpenShut
import Derived.Handed
import Derived.RowKit
import Derived.Carry
import Derived.Test.YtmpkhnblifgokaaRows
import Derived.ProofKit
import Derived.Test.YtmpkhnblifgokaaPtB
set_option linter.unusedVariables false
set_option linter.unusedSimpArgs false
set_option linter.unusedSectionVars false
/- Div64. Own work. -/
set_option linter.unusedVariables false
namespace Go.Lift

theorem div64_eval {a b c s : Int} (hg : lz64 c = s) (hc : U64 c) (hs0 : 0 ≤ s) (hs1 : s ≤ 63) (hn0 : 9223372036854775808 ≤ c * 2 ^ s.toNat) (hn1 : c * 2 ^ s.toNat < 18446744073709551616) (ha0 : 0 ≤ a) (hac : a < c) (hb0 : 0 ≤ b) (hb : b < 18446744073709551616)
    {post : Int × Int × Unit → Prop} (h : post ((a * 18446744073709551616 + b) / c, (a * 18446744073709551616 + b) % c, ())) : F19 a b c post := by
  unfold F19
  refine Br.intro (fun e => by simp at e; omega) fun _ => Br.intro (fun e => by simp at e; omega) fun _ => Br.intro (fun e => ?_) fun _ => ?_
  · have e : a = 0 := by simpa using e
    subst e
    refine ⟨by omega, by omega, ?_⟩
    have e1 : b.tdiv c = b / c := Int.tdiv_eq_ediv_of_nonneg hb0
    have e2 : b.tmod c = b % c := Int.tmod_eq_emod_of_nonneg hb0
    have p0 : 0 ≤ b / c := Int.ediv_nonneg hb0 (by omega)
    have p1 : b / c ≤ b := Int.ediv_le_self _ hb0
    rw [e1, e2, w64 _ p0 (by omega)]
    simpa using h
  · rw [hg]
    rw [w64 s hs0 (by omega), w64 (64 - s) (by omega) (by omega)]
    have e32 : (2 : Int) ^ Min.min (Int.toNat (32 : Int)) Go.IntKind.u64.bits = 4294967296 := by decide
    have es : Min.min s.toNat Go.IntKind.u64.bits = s.toNat := Nat.min_eq_left (by show s.toNat ≤ 64; omega)
    have et : Min.min (64 - s).toNat Go.IntKind.u64.bits = (64 - s).toNat := Nat.min_eq_left (by show (64 - s).toNat ≤ 64; omega)
    have hST : (2 : Int) ^ s.toNat * 2 ^ (64 - s).toNat = 18446744073709551616 := by
      rw [← Int.pow_add, show s.toNat + (64 - s).toNat = 64 by omega]; rfl
    have hS0 : (0 : Int) < 2 ^ s.toNat := Int.pow_pos (by decide)
    have hT0 : (0 : Int) < 2 ^ (64 - s).toNat := Int.pow_pos (by decide)
    have fS : ∀ x : Int, x.fdiv (2 ^ s.toNat) = x / 2 ^ s.toNat := fun x => Int.fdiv_eq_ediv_of_nonneg _ (by omega)
    have fT : ∀ x : Int, x.fdiv (2 ^ (64 - s).toNat) = x / 2 ^ (64 - s).toNat := fun x => Int.fdiv_eq_ediv_of_nonneg _ (by omega)
    have f32 : ∀ x : Int, x.fdiv 4294967296 = x / 4294967296 := fun x => Int.fdiv_eq_ediv_of_nonneg _ (by decide)
    simp only [e32, es, et, fS, fT, f32]
    generalize hS : (2 : Int) ^ s.toNat = S at *
    generalize hT : (2 : Int) ^ (64 - s).toNat = T at *
    generalize hY : c * S = Y at *
    have aS : a * S ≤ Y - S := by
      have : a * S ≤ (c - 1) * S := Int.mul_le_mul_of_nonneg_right (by omega) (by omega)
      rw [Int.sub_mul, Int.one_mul, hY] at this; exact this
    have aS0 : 0 ≤ a * S := Int.mul_nonneg ha0 (by omega)
    have bT0 : 0 ≤ b / T := Int.ediv_nonneg hb0 (by omega)
    have bTS : b / T < S := Int.ediv_lt_of_lt_mul hT0 (by rw [hST]; exact hb)
    have bm0 : 0 ≤ b % T := Int.emod_nonneg _ (by omega)
    have bm1 : b % T < T := Int.emod_lt_of_pos _ hT0
    have hV0 : 0 ≤ b % T * S := Int.mul_nonneg bm0 (by omega)
    have hV1 : b % T * S < 18446744073709551616 := by
      have : b % T * S ≤ (T - 1) * S := Int.mul_le_mul_of_nonneg_right (by omega) (by omega)
      rw [Int.sub_mul, Int.one_mul, Int.mul_comm T S, hST] at this; omega
    have hbS : b * S = b / T * 18446744073709551616 + b % T * S := by
      have e : b = b / T * T + b % T := by have := Int.mul_ediv_add_emod b T; rw [Int.mul_comm (b / T) T]; omega
      conv => lhs; rw [e]
      rw [Int.add_mul, Int.mul_assoc, Int.mul_comm T S, hST]
    have wbS : Go.IntKind.u64.wrap (b * S) = b % T * S := by rw [IntKind.wrap_u64, hbS]; omega
    have hU : Go.bits .or .u64 (a * S) (b / T) = a * S + b / T := or_add s.toNat hS.symm ha0 (by omega) bT0 bTS (by omega)
    rw [w64 Y (by omega) hn1, w64 (a * S) aS0 (by omega), wbS, hU, and_mask32 Y (by omega) hn1, and_mask32 _ hV0 hV1]
    refine ⟨hc, hs0, by decide, hs0, by omega, hs0, by decide, fun x _ => x = (Y, s, Y / 4294967296, Y % 4294967296, a * S + b / T, b % T * S / 4294967296, b % T * S % 4294967296, ()), ⟨rfl, rfl⟩, ?_⟩
    rintro _ ⟨⟩ rfl
    simp only
    generalize hVV : b % T * S = V at *
    generalize hUU : a * S + b / T = U at *
    have d1 : DigIn (Y / 4294967296) (Y % 4294967296) U (V / 4294967296) := ⟨by omega, by omega, by omega, by omega, by omega, by omega, by omega, by omega⟩
    refine ⟨by omega, fun x _ => DigFin (Y / 4294967296) (Y % 4294967296) U (V / 4294967296) x.1, dig_loop (P := fun x _ => DigFin (Y / 4294967296) (Y % 4294967296) U (V / 4294967296) x.1) d1 fun q hq => hq, ?_⟩
    rintro ⟨q1, ⟨⟩⟩ ⟨⟩ hq1
    simp only at hq1 ⊢
    have eY : Y / 4294967296 * 4294967296 + Y % 4294967296 = Y := by omega
    have l1 := hq1.lo
    have u1 := hq1.up
    rw [eY] at l1 u1
    rw [Int.add_mul, Int.one_mul] at u1
    have q1Y0 : 0 ≤ q1 * Y := Int.mul_nonneg hq1.q0 (by omega)
    have eu : Go.IntKind.u64.wrap (Go.IntKind.u64.wrap (Go.IntKind.u64.wrap (U * 4294967296) + V / 4294967296) - Go.IntKind.u64.wrap (q1 * Y)) = U * 4294967296 + V / 4294967296 - q1 * Y := by
      simp only [IntKind.wrap_u64]; omega
    rw [eu]
    generalize hR1 : U * 4294967296 + V / 4294967296 - q1 * Y = R1 at *
    have d2 : DigIn (Y / 4294967296) (Y % 4294967296) R1 (V % 4294967296) := ⟨by omega, by omega, by omega, by omega, by omega, by omega, by omega, by omega⟩
    refine ⟨by omega, fun x _ => DigFin (Y / 4294967296) (Y % 4294967296) R1 (V % 4294967296) x.1, dig_loop (P := fun x _ => DigFin (Y / 4294967296) (Y % 4294967296) R1 (V % 4294967296) x.1) d2 fun q hq => hq, ?_⟩
    rintro ⟨q0, ⟨⟩⟩ ⟨⟩ hq0
    simp only at hq0 ⊢
    have l0 := hq0.lo
    have u0 := hq0.up
    rw [eY] at l0 u0
    rw [Int.add_mul, Int.one_mul] at u0
    have q0Y0 : 0 ≤ q0 * Y := Int.mul_nonneg hq0.q0 (by omega)
    have er : Go.IntKind.u64.wrap (Go.IntKind.u64.wrap (Go.IntKind.u64.wrap (R1 * 4294967296) + V % 4294967296) - Go.IntKind.u64.wrap (q0 * Y)) = R1 * 4294967296 + V % 4294967296 - q0 * Y := by
      simp only [IntKind.wrap_u64]; omega
    rw [er]
    have a1 := hq1.q0
    have a2 := hq1.qW
    have a3 := hq0.q0
    have a4 := hq0.qW
    rw [w64 (q1 * 4294967296) (by omega) (by omega), w64 _ (by omega) (by omega)]
    have key := fin_div (M := a * 18446744073709551616 + b) (c := c) (S := S) (Q := q1 * 4294967296 + q0) (R := R1 * 4294967296 + V % 4294967296 - q0 * Y) (Y := Y) hS0 hY.symm (by omega) (by
      have e1 : (a * 18446744073709551616 + b) * S = a * S * 18446744073709551616 + b * S := by rw [Int.add_mul, Int.mul_right_comm]
      have e2 : (q1 * 4294967296 + q0) * Y = q1 * Y * 4294967296 + q0 * Y := by rw [Int.add_mul, Int.mul_right_comm]
      rw [e1, e2, hbS]
      omega) (by omega) (by omega)
    rw [key.1, key.2] at h
    refine ⟨hs0, ?_⟩
    rw [es, hS, fS]
    exact h
end Go.Lift

/- Contracts of seat r1: Div64. Own work. -/
set_option linter.unusedVariables false
namespace Go.Lift
open Go.Proofs

theorem lz_norm {c : Int} (h0 : 0 < c) (h1 : c < 18446744073709551616) : 0 ≤ lz64 c ∧ lz64 c ≤ 63 ∧ 9223372036854775808 ≤ c * 2 ^ (lz64 c).toNat ∧ c * 2 ^ (lz64 c).toNat < 18446744073709551616 := by
  obtain ⟨n, rfl⟩ := Int.eq_ofNat_of_zero_le (show 0 ≤ c by omega)
  have hn : n ≠ 0 := by omega
  have hl : n.log2 < 64 := (Nat.log2_lt hn).2 (by omega)
  have e : lz64 (n : Int) = ((63 - n.log2 : Nat) : Int) := by
    unfold lz64 len64; rw [if_neg (by omega)]; simp only [Int.toNat_natCast]; omega
  rw [e, Int.toNat_natCast]
  have a1 := Nat.mul_le_mul_right (2 ^ (63 - n.log2)) (Nat.log2_self_le hn)
  have a2 := Nat.mul_lt_mul_of_pos_right (Nat.lt_log2_self (n := n)) (Nat.two_pow_pos (63 - n.log2))
  rw [← Nat.pow_add, show n.log2 + (63 - n.log2) = 63 by omega] at a1
  rw [← Nat.pow_add, show n.log2 + 1 + (63 - n.log2) = 64 by omega] at a2
  have hc : ((n : Int) * 2 ^ (63 - n.log2)) = ((n * 2 ^ (63 - n.log2) : Nat) : Int) := by rw [Int.natCast_mul, Int.natCast_pow]; rfl
  rw [hc]
  refine ⟨by omega, by omega, ?_, ?_⟩
  · exact Int.ofNat_le.2 a1
  · exact Int.ofNat_lt.2 a2

def divQ (a b c : Int) : Int := (a * 18446744073709551616 + b) / c
def divR (a b c : Int) : Int := (a * 18446744073709551616 + b) % c
def cDiv : Con := .det [.int .u64, .int .u64, .int .u64] [.snap (.int .u64), .snap (.int .u64)] (fun x => U64 x.1 ∧ U64 x.2.1 ∧ U64 x.2.2.1 ∧ LT.lt (α := Int) x.1 x.2.2.1) (fun x => (divQ x.1 x.2.1 x.2.2.1, divR x.1 x.2.1 x.2.2.1, ()))
theorem at19 : FnAt Try.prog 19 Try.f19.ntmps Try.f19.results.toList (Try.f19.body.getD .skip) := ⟨Try.f19, Try.func19, rfl, rfl, by simp, by decide⟩
theorem c19 : cDiv.holds Try.prog cxB.glob 19 := by
  refine det_holds cxB_ok mixed hn19 at19 ?_
  rintro ⟨a, b, c, ⟨⟩⟩ ⟨ha, hb, hc, hac⟩
  have hc0 : (0 : Int) < c := Int.lt_of_le_of_lt ha.1 hac
  obtain ⟨s0, s1, s2, s3⟩ := lz_norm hc0 hc.2
  have h := div64_eval (a := a) (b := b) (c := c) rfl hc s0 s1 s2 s3 ha.1 hac hb.1 hb.2 (post := fun r => r = (divQ a b c, divR a b c, ())) rfl
  exact (f19_eq a b c _).mpr h
end Go.Lift

/- Contracts of seat r1: layer C. Own work. -/
set_option linter.unusedVariables false
namespace Go.Lift
open Go.Proofs
def conC (f : Nat) : Option Con := match f with
  | 18 => some cMul
  | 19 => some cDiv
  | 20 => some cMul
  | _ => none
def cxC : Cx := ⟨tab1, conC, fun _ => none⟩
theorem cxC_ok : CxOk Try.prog cxC := ⟨tab1_fits, fun f con h => by
  simp only [cxC, conC] at h
  split at h
  · cases h; exact c18
  · cases h; exact c19
  · cases h; exact c20
  · cases h⟩
end Go.Lift

set_option linter.unusedVariables false
namespace Go.Lift
open Go.Proofs
def F12 := fun (a b c : Int) (post : Int × Unit → Prop) =>
  Go.Lift.Br (Decidable.decide (a < (0 : Int))) (post ((0 : Int), ()))
    (Go.Lift.Br (Decidable.decide (b < (0 : Int))) (post ((0 : Int), ()))
      (Go.Lift.Br (Decidable.decide (c < (1 : Int))) (post ((0 : Int), ()))
        (∃ (h : Go.Lift.U64 (Go.IntKind.u64.wrap a) ∧ Go.Lift.U64 (Go.IntKind.u64.wrap b)),
          Go.Lift.Br (Decidable.decide (Go.Lift.mulHi (Go.IntKind.u64.wrap a) (Go.IntKind.u64.wrap b) ≥ Go.IntKind.u64.wrap c)) (post ((9223372036854775807 : Int), ()))
            (∃ (h :
              Go.Lift.U64 (Go.Lift.mulHi (Go.IntKind.u64.wrap a) (Go.IntKind.u64.wrap b)) ∧
                Go.Lift.U64 (Go.Lift.mulLo (Go.IntKind.u64.wrap a) (Go.IntKind.u64.wrap b)) ∧
                  Go.Lift.U64 (Go.IntKind.u64.wrap c) ∧ Go.Lift.mulHi (Go.IntKind.u64.wrap a) (Go.IntKind.u64.wrap b) < Go.IntKind.u64.wrap c),
              post
                (Go.IntKind.i64.wrap
                    (Go.Lift.imin
                      (Go.Lift.divQ (Go.Lift.mulHi (Go.IntKind.u64.wrap a) (Go.IntKind.u64.wrap b)) (Go.Lift.mulLo (Go.IntKind.u64.wrap a) (Go.IntKind.u64.wrap b))
                        (Go.IntKind.u64.wrap c))
                      (9223372036854775807 : Int)),
                  ())))))

theorem f12_eq (a b c : Int) (post : Int × Unit → Prop) : fnEval cxC noHn Try.f12.ntmps Try.f12.results.toList (Try.f12.body.getD .skip) [.int .i64, .int .i64, .int .i64] [.snap (.int .i64)] (a, b, c, ()) post = F12 a b c post := by kernel_rfl



theorem mul_hi_lo (a b : Int) : mulHi a b * 18446744073709551616 + mulLo a b = a * b := by unfold mulHi mulLo; omega
theorem mulLo_u64 (a b : Int) : U64 (mulLo a b) := by unfold mulLo U64; omega
theorem mulHi_bound {a b : Int} (ha0 : 0 ≤ a) (ha : a < 9223372036854775808) (hb0 : 0 ≤ b) (hb : b < 9223372036854775808) : 0 ≤ mulHi a b ∧ mulHi a b < 4611686018427387904 := by
  have := mul_bound ha0 (show a ≤ 9223372036854775807 by omega) hb0 (show b ≤ 9223372036854775807 by omega)
  unfold mulHi; omega

theorem imin_eq (a b : Int) : imin a b = if a ≤ b then a else b := by unfold imin; split <;> (try split) <;> omega

theorem part_eval {a b c : Int} (ha : I64 a) (hb : I64 b) (hc : I64 c) {post : Int × Unit → Prop} (h : post (part a b c, ())) : F12 a b c post := by
  obtain ⟨a1, a2⟩ := ha
  obtain ⟨b1, b2⟩ := hb
  obtain ⟨c1, c2⟩ := hc
  unfold F12
  refine Br.intro (fun e => ?_) fun e => Br.intro (fun f => ?_) fun f => Br.intro (fun g => ?_) fun g => ?_
  all_goals simp only [decide_eq_true_eq, decide_eq_false_iff_not, Int.not_lt] at *
  · rw [show part a b c = 0 by unfold part; rw [if_pos e]] at h; exact h
  · rw [show part a b c = 0 by unfold part; rw [if_neg (by omega), if_pos f]] at h; exact h
  · rw [show part a b c = 0 by unfold part; rw [if_neg (by omega), if_neg (by omega), if_pos g]] at h; exact h
  · have hp : part a b c = if a * b / c ≤ 9223372036854775807 then a * b / c else 9223372036854775807 := by unfold part; rw [if_neg (by omega), if_neg (by omega), if_neg (by omega)]
    rw [w64 a e (by omega), w64 b f (by omega), w64 c (by omega) (by omega)]
    obtain ⟨m1, m2⟩ := mulHi_bound e a2 f b2
    have hl := mulLo_u64 a b
    have hhl := mul_hi_lo a b
    refine ⟨⟨⟨e, by omega⟩, f, by omega⟩, Br.intro (fun d => ?_) fun d => ⟨⟨⟨m1, by omega⟩, hl, ⟨by omega, by omega⟩, by simpa using d⟩, ?_⟩⟩
    · have d' : c ≤ mulHi a b := by simpa using d
      have : 18446744073709551616 ≤ a * b / c := by
        rw [Int.le_ediv_iff_mul_le (by omega)]
        have := hl.1
        omega
      rw [hp, if_neg (by omega)] at h; exact h
    · have e2 : divQ (mulHi a b) (mulLo a b) c = a * b / c := by unfold divQ; rw [hhl]
      have n0 : 0 ≤ a * b / c := Int.ediv_nonneg (Int.mul_nonneg e f) (by omega)
      rw [e2, imin_eq]
      rw [hp] at h
      split at h
      · rename_i q; rw [if_pos q, wrap_i64_id _ n0 (by omega)]; exact h
      · rename_i q; rw [if_neg q, wrap_i64_id _ (by omega) (by omega)]; exact h
end Go.Lift

/- Division bit by bit: plain laws. Own work. -/
set_option linter.unusedVariables false
namespace Go.Lift

def DivAt (P c : Int) (q rest i : Int) : Prop := -1 ≤ i ∧ i ≤ 127 ∧ 0 ≤ q ∧ q < 9223372036854775808 ∧ 0 ≤ rest ∧ rest < c ∧
  ∃ t : Int, q = t * 2 ^ (i + 1).toNat ∧ 0 ≤ t ∧ P / 2 ^ (i + 1).toNat = t * c + rest

theorem bit_at (P : Int) (n : Nat) : P / 2 ^ n = 2 * (P / 2 ^ (n + 1)) + P / 2 ^ n % 2 := by
  have : (2 : Int) ^ (n + 1) = 2 ^ n * 2 := Int.pow_succ ..
  rw [this, ← Int.ediv_ediv_of_nonneg (Int.pow_nonneg (by omega))]
  omega

theorem pow_dvd63 {n : Nat} (h : n ≤ 62) : ∃ K : Int, 2 ^ n * (2 * K) = (9223372036854775808 : Int) ∧ 0 < K := by
  refine ⟨2 ^ (62 - n), ?_, Int.pow_pos (by omega)⟩
  have : (2 : Int) ^ n * (2 * 2 ^ (62 - n)) = 2 * (2 ^ n * 2 ^ (62 - n)) := by rw [Int.mul_left_comm]
  rw [this, ← Int.pow_add, show n + (62 - n) = 62 by omega]
  rfl

theorem div_none {P c q rest : Int} (n : Nat) (h : DivAt P c q rest n) (hlt : 2 * rest + P / 2 ^ n % 2 < c) : DivAt P c q (2 * rest + P / 2 ^ n % 2) ((n : Int) - 1) := by
  obtain ⟨h1, h2, h3, h4, h5, h6, t, h7, h8, h9⟩ := h
  have e1 : ((n : Int) + 1).toNat = n + 1 := by omega
  have e2 : ((n : Int) - 1 + 1).toNat = n := by omega
  rw [e1] at h7 h9
  refine ⟨by omega, by omega, h3, h4, by omega, hlt, 2 * t, ?_, by omega, ?_⟩
  · rw [e2, h7, Int.pow_succ, Int.mul_comm (2 ^ n) 2, ← Int.mul_assoc, Int.mul_comm t 2]
  · have := bit_at P n
    rw [e2]
    rw [h9] at this
    rw [this, Int.mul_assoc 2 t c]
    omega

theorem div_one {P c q rest : Int} (n : Nat) (h : DivAt P c q rest n) (hn : n ≤ 62) (hge : c ≤ 2 * rest + P / 2 ^ n % 2) :
    DivAt P c (q + 2 ^ n) (2 * rest + P / 2 ^ n % 2 - c) ((n : Int) - 1) ∧ q + 2 ^ n < 9223372036854775808 := by
  obtain ⟨h1, h2, h3, h4, h5, h6, t, h7, h8, h9⟩ := h
  have e1 : ((n : Int) + 1).toNat = n + 1 := by omega
  have e2 : ((n : Int) - 1 + 1).toNat = n := by omega
  rw [e1] at h7 h9
  obtain ⟨K, hK, hK0⟩ := pow_dvd63 hn
  have hp : (0 : Int) < 2 ^ n := Int.pow_pos (by omega)
  have e3 : (2 : Int) ^ (n + 1) = 2 ^ n * 2 := Int.pow_succ ..
  rw [e3] at h7
  have hb := bit_at P n
  rw [h9] at hb
  generalize hM : (2 : Int) ^ n = M at *
  have hlt : t < K := by
    rcases Int.lt_or_le t K with g | g
    · exact g
    · have := Int.mul_le_mul_of_nonneg_right g (show 0 ≤ M * 2 by omega)
      rw [show K * (M * 2) = M * (2 * K) by rw [Int.mul_comm K, Int.mul_assoc], hK] at this
      omega
  have hle : (t + 1) * (M * 2) ≤ 9223372036854775808 := by
    have := Int.mul_le_mul_of_nonneg_right (show t + 1 ≤ K by omega) (show 0 ≤ M * 2 by omega)
    rwa [show K * (M * 2) = M * (2 * K) by rw [Int.mul_comm K, Int.mul_assoc], hK] at this
  rw [Int.add_mul] at hle
  have h10 : q + M < 9223372036854775808 := by omega
  refine ⟨⟨by omega, by omega, by omega, h10, by omega, by omega, 2 * t + 1, ?_, by omega, ?_⟩, h10⟩
  · rw [e2, hM, h7]
    rw [show t * (M * 2) = 2 * t * M by rw [Int.mul_comm M, ← Int.mul_assoc, Int.mul_comm t 2], Int.add_mul]; omega
  · rw [e2, hM]
    rw [Int.add_mul, Int.mul_assoc 2 t c]; omega

theorem div_much {a b c q rest : Int} (n : Nat) (h : DivAt (a * b) c q rest n) (hn : 63 ≤ n) (hge : c ≤ 2 * rest + a * b / 2 ^ n % 2) (ha : 0 ≤ a) (hb : 0 ≤ b) (hc : 1 ≤ c) : part a b c = 9223372036854775807 := by
  obtain ⟨h1, h2, h3, h4, h5, h6, t, h7, h8, h9⟩ := h
  have e1 : ((n : Int) + 1).toNat = n + 1 := by omega
  rw [e1] at h9
  have hb1 := bit_at (a * b) n
  rw [h9] at hb1
  have hge2 : c ≤ a * b / 2 ^ n := by
    rw [hb1]
    have : 0 ≤ t * c := Int.mul_nonneg h8 (by omega)
    omega
  have hp : (0 : Int) < 2 ^ n := Int.pow_pos (by omega)
  rw [Int.le_ediv_iff_mul_le hp] at hge2
  have hpow : (9223372036854775808 : Int) ≤ 2 ^ n := by
    obtain ⟨k, rfl⟩ := Nat.exists_eq_add_of_le hn
    rw [Int.pow_add]
    have : (1 : Int) ≤ 2 ^ k := by have : (0 : Int) < 2 ^ k := Int.pow_pos (by omega); omega
    have h2 : (2 : Int) ^ 63 = 9223372036854775808 := rfl
    rw [h2]; omega
  have hd : 9223372036854775808 ≤ a * b / c := by
    rw [Int.le_ediv_iff_mul_le (by omega)]
    have := Int.mul_le_mul_of_nonneg_left hpow (show 0 ≤ c by omega)
    rw [Int.mul_comm c] at this
    omega
  unfold part
  rw [if_neg (by omega), if_neg (by omega), if_neg (by omega), if_neg (by omega)]

theorem div_end {a b c q rest : Int} (h : DivAt (a * b) c q rest (-1)) (ha : 0 ≤ a) (hb : 0 ≤ b) (hc : 1 ≤ c) : part a b c = q := by
  obtain ⟨h1, h2, h3, h4, h5, h6, t, h7, h8, h9⟩ := h
  have e : ((-1 : Int) + 1).toNat = 0 := rfl
  rw [e, Int.pow_zero] at h7 h9
  rw [Int.ediv_one] at h9
  have : a * b / c = q := by
    rw [h9, h7, Int.add_comm, Int.mul_comm t c, Int.add_mul_ediv_left _ _ (by omega), Int.ediv_eq_zero_of_lt h5 h6]; omega
  unfold part
  rw [if_neg (by omega), if_neg (by omega), if_neg (by omega), if_pos (by omega), this]

theorem lo_bit {P : Int} (n : Nat) (hn : n ≤ 63) : P % 18446744073709551616 / 2 ^ n % 2 = P / 2 ^ n % 2 := by
  obtain ⟨K, hK, hK0⟩ : ∃ K : Int, 2 ^ n * (2 * K) = (18446744073709551616 : Int) ∧ 0 < K := by
    refine ⟨2 ^ (63 - n), ?_, Int.pow_pos (by omega)⟩
    rw [Int.mul_left_comm, ← Int.pow_add, show n + (63 - n) = 63 by omega]; rfl
  have hp : (0 : Int) < 2 ^ n := Int.pow_pos (by omega)
  have e : P = P % 18446744073709551616 + 2 ^ n * (2 * K * (P / 18446744073709551616)) := by
    rw [← Int.mul_assoc, hK]; omega
  conv => rhs; rw [e]
  rw [Int.add_mul_ediv_left _ _ (by omega), Int.mul_assoc 2 K]
  omega

theorem hi_bit {P : Int} (n : Nat) (hn : 64 ≤ n) : P / 18446744073709551616 / 2 ^ (n - 64) % 2 = P / 2 ^ n % 2 := by
  rw [Int.ediv_ediv_of_nonneg (by omega)]
  have : (18446744073709551616 : Int) * 2 ^ (n - 64) = 2 ^ n := by
    rw [show (18446744073709551616 : Int) = 2 ^ 64 from rfl, ← Int.pow_add, show 64 + (n - 64) = n by omega]
  rw [this]
end Go.Lift

/- The document's Part: lifted. Own work. -/
set_option linter.unusedVariables false
set_option linter.unusedSimpArgs false
namespace Go.Lift
open Go.Proofs
def lp14 (k : Nat) : Option LH := match k with
  | 7 => some { ls := [(.slot 9, .data (.int .u64)), (.slot 10, .data (.int .u64)), (.slot 11, .data (.int .i64))], os := [] }
  | _ => none
def jn14 (k : Nat) : Option LH := match k with
  | 12 => some { ls := [(.slot 12, .data (.int .u64))], os := [] }
  | _ => none
def hn14 : Hn := { loops := lp14, joins := jn14, binds := fun k => match k with | 12 => [10] | 13 => [13] | 15 => [10] | 19 => [9] | _ => [] }
def F14 := fun (a b c : Int) (post : Int × Unit → Prop) =>
  Br (decide (a < (0 : Int))) (post ((0 : Int), ()))
    (Br (decide (b < (0 : Int))) (post ((0 : Int), ()))
      (Br (decide (c ≤ (0 : Int))) (post ((0 : Int), ()))
        (∃ (h : U64 (IntKind.u64.wrap a) ∧ U64 (IntKind.u64.wrap b)),
          HIs [] [] ∧
            ∃ (I : Int × Int × Int × Unit → Unit → Prop),
              ∃ (μ : Int × Int × Int × Unit → Unit → Nat),
                I ((0 : Int), (0 : Int), (127 : Int), ()) () ∧
                  ∀ (x : Int × Int × Int × Unit) (y : Unit),
                    I x y →
                      Br (decide (x.snd.snd.fst ≥ (0 : Int)))
                        (∃ (h : (64 : Int) ≠ (0 : Int)),
                          ∃ (h : (0 : Int) ≤ IntKind.u64.wrap (x.snd.snd.fst.tmod (64 : Int))),
                            ∃ (h : (2 : Int) ≠ (0 : Int)),
                              ∃ (post_1 : Int × Unit → Unit → Prop),
                                Br (decide (x.snd.snd.fst > (63 : Int)))
                                    (∃ (h : (64 : Int) ≠ (0 : Int)),
                                      ∃ (h : (0 : Int) ≤ IntKind.u64.wrap (x.snd.snd.fst.tmod (64 : Int))),
                                        ∃ (h : (2 : Int) ≠ (0 : Int)),
                                          HIs [] [] ∧
                                            post_1
                                              (((mulHi (IntKind.u64.wrap a) (IntKind.u64.wrap b)).fdiv
                                                      ((2 : Int) ^ Min.min (IntKind.u64.wrap (x.snd.snd.fst.tmod (64 : Int))).toNat IntKind.u64.bits)).tmod
                                                  (2 : Int),
                                                ())
                                              ())
                                    (HIs [] [] ∧
                                      post_1
                                        (((mulLo (IntKind.u64.wrap a) (IntKind.u64.wrap b)).fdiv
                                                ((2 : Int) ^ Min.min (IntKind.u64.wrap (x.snd.snd.fst.tmod (64 : Int))).toNat IntKind.u64.bits)).tmod
                                            (2 : Int),
                                          ())
                                        ()) ∧
                                  ∀ (x_2 : Int × Unit) (y_1 : Unit),
                                    post_1 x_2 y_1 →
                                      ∀ (m : Int),
                                        m = IntKind.u64.wrap (IntKind.u64.wrap ((2 : Int) * x.snd.fst) + x_2.fst) →
                                          ∀ (m_1 : Bool),
                                            m_1 = decide (m ≥ IntKind.u64.wrap c) →
                                              Br m_1
                                                (∀ (m_2 : Int),
                                                  m_2 = IntKind.u64.wrap (m - IntKind.u64.wrap c) →
                                                    Br m_1
                                                      (Br (decide (x.snd.snd.fst > (62 : Int))) (post ((9223372036854775807 : Int), ()))
                                                        (Br m_1
                                                          (∃ (h : (0 : Int) ≤ IntKind.u64.wrap x.snd.snd.fst),
                                                            ∀ (m : Int),
                                                              m =
                                                                  IntKind.u64.wrap
                                                                    (x.fst +
                                                                      IntKind.u64.wrap
                                                                        ((1 : Int) * (2 : Int) ^ Min.min (IntKind.u64.wrap x.snd.snd.fst).toNat IntKind.u64.bits)) →
                                                                HIs [] [] ∧
                                                                  I (m, m_2, IntKind.i64.wrap (x.snd.snd.fst - (1 : Int)), ()) () ∧
                                                                    μ (m, m_2, IntKind.i64.wrap (x.snd.snd.fst - (1 : Int)), ()) () < μ x y)
                                                          (HIs [] [] ∧
                                                            I (x.fst, m_2, IntKind.i64.wrap (x.snd.snd.fst - (1 : Int)), ()) () ∧
                                                              μ (x.fst, m_2, IntKind.i64.wrap (x.snd.snd.fst - (1 : Int)), ()) () < μ x y)))
                                                      (Br m_1
                                                        (∃ (h : (0 : Int) ≤ IntKind.u64.wrap x.snd.snd.fst),
                                                          ∀ (m : Int),
                                                            m =
                                                                IntKind.u64.wrap
                                                                  (x.fst +
                                                                    IntKind.u64.wrap
                                                                      ((1 : Int) * (2 : Int) ^ Min.min (IntKind.u64.wrap x.snd.snd.fst).toNat IntKind.u64.bits)) →
                                                              HIs [] [] ∧
                                                                I (m, m_2, IntKind.i64.wrap (x.snd.snd.fst - (1 : Int)), ()) () ∧
                                                                  μ (m, m_2, IntKind.i64.wrap (x.snd.snd.fst - (1 : Int)), ()) () < μ x y)
                                                        (HIs [] [] ∧
                                                          I (x.fst, m_2, IntKind.i64.wrap (x.snd.snd.fst - (1 : Int)), ()) () ∧
                                                            μ (x.fst, m_2, IntKind.i64.wrap (x.snd.snd.fst - (1 : Int)), ()) () < μ x y)))
                                                (Br m_1
                                                  (Br (decide (x.snd.snd.fst > (62 : Int))) (post ((9223372036854775807 : Int), ()))
                                                    (Br m_1
                                                      (∃ (h : (0 : Int) ≤ IntKind.u64.wrap x.snd.snd.fst),
                                                        ∀ (m_2 : Int),
                                                          m_2 =
                                                              IntKind.u64.wrap
                                                                (x.fst +
                                                                  IntKind.u64.wrap
                                                                    ((1 : Int) * (2 : Int) ^ Min.min (IntKind.u64.wrap x.snd.snd.fst).toNat IntKind.u64.bits)) →
                                                            HIs [] [] ∧
                                                              I (m_2, m, IntKind.i64.wrap (x.snd.snd.fst - (1 : Int)), ()) () ∧
                                                                μ (m_2, m, IntKind.i64.wrap (x.snd.snd.fst - (1 : Int)), ()) () < μ x y)
                                                      (HIs [] [] ∧
                                                        I (x.fst, m, IntKind.i64.wrap (x.snd.snd.fst - (1 : Int)), ()) () ∧
                                                          μ (x.fst, m, IntKind.i64.wrap (x.snd.snd.fst - (1 : Int)), ()) () < μ x y)))
                                                  (Br m_1
                                                    (∃ (h : (0 : Int) ≤ IntKind.u64.wrap x.snd.snd.fst),
                                                      ∀ (m_2 : Int),
                                                        m_2 =
                                                            IntKind.u64.wrap
                                                              (x.fst +
                                                                IntKind.u64.wrap
                                                                  ((1 : Int) * (2 : Int) ^ Min.min (IntKind.u64.wrap x.snd.snd.fst).toNat IntKind.u64.bits)) →
                                                          HIs [] [] ∧
                                                            I (m_2, m, IntKind.i64.wrap (x.snd.snd.fst - (1 : Int)), ()) () ∧
                                                              μ (m_2, m, IntKind.i64.wrap (x.snd.snd.fst - (1 : Int)), ()) () < μ x y)
                                                    (HIs [] [] ∧
                                                      I (x.fst, m, IntKind.i64.wrap (x.snd.snd.fst - (1 : Int)), ()) () ∧
                                                        μ (x.fst, m, IntKind.i64.wrap (x.snd.snd.fst - (1 : Int)), ()) () < μ x y))))
                        (post (IntKind.i64.wrap x.fst, ())))))
theorem f14_eq (a b c : Int) (post : Int × Unit → Prop) : fnEval cxC hn14 Try.f14.ntmps Try.f14.results.toList (Try.f14.body.getD .skip) [.int .i64, .int .i64, .int .i64] [.snap (.int .i64)] (a, b, c, ()) post = F14 a b c post := by kernel_rfl

theorem part14_eval {a b c : Int} (ha : I64 a) (hb : I64 b) (hc : I64 c) {post : Int × Unit → Prop} (h : post (part a b c, ())) : F14 a b c post := by
  obtain ⟨a1, a2⟩ := ha
  obtain ⟨b1, b2⟩ := hb
  obtain ⟨c1, c2⟩ := hc
  unfold F14
  refine Br.intro (fun e => ?_) fun e => Br.intro (fun f => ?_) fun f => Br.intro (fun g => ?_) fun g => ?_
  all_goals simp only [decide_eq_true_eq, decide_eq_false_iff_not, Int.not_lt, Int.not_le] at *
  · rw [show part a b c = 0 by unfold part; rw [if_pos e]] at h; exact h
  · rw [show part a b c = 0 by unfold part; rw [if_neg (by omega), if_pos f]] at h; exact h
  · rw [show part a b c = 0 by unfold part; rw [if_neg (by omega), if_neg (by omega), if_pos (by omega)]] at h; exact h
  · rw [w64 a e (by omega), w64 b f (by omega), w64 c (by omega) (by omega)]
    obtain ⟨m1, m2⟩ := mulHi_bound e a2 f b2
    have hl := mulLo_u64 a b
    refine ⟨⟨⟨e, by omega⟩, f, by omega⟩, rfl, fun x _ => DivAt (a * b) c x.1 x.2.1 x.2.2.1, fun x _ => (x.2.2.1 + 1).toNat, ?_, ?_⟩
    · dsimp only
      refine ⟨by omega, by omega, by omega, by omega, by omega, by omega, 0, by simp, by omega, ?_⟩
      have p := mul_bound e (show a ≤ 9223372036854775807 by omega) f (show b ≤ 9223372036854775807 by omega)
      rw [Int.ediv_eq_zero_of_lt p.1 (Int.lt_of_le_of_lt p.2 (by decide))]; simp
    · rintro ⟨q, rest, i, ⟨⟩⟩ _ hI
      dsimp only at hI ⊢
      have ⟨h1, h2, h3, h4, h5, h6, _⟩ := hI
      refine Br.intro (fun d => ?_) fun d => ?_
      all_goals simp only [decide_eq_true_eq, decide_eq_false_iff_not, Int.not_le, ge_iff_le, gt_iff_lt] at d
      · obtain ⟨n, rfl⟩ := Int.eq_ofNat_of_zero_le d
        have et : Int.tmod (n : Int) 64 = ((n % 64 : Nat) : Int) := by rw [Int.tmod_eq_emod_of_nonneg (by omega)]; omega
        rw [et, w64 ((n % 64 : Nat) : Int) (by omega) (by omega), w64 (n : Int) (by omega) (by omega)]
        rw [show IntKind.i64.wrap ((n : Int) - 1) = (n : Int) - 1 by simp [IntKind.wrap, IntKind.bits, IntKind.signed]; omega]
        rw [show min ((n % 64 : Nat) : Int).toNat IntKind.u64.bits = n % 64 by simp [IntKind.bits]; omega, show min (n : Int).toNat IntKind.u64.bits = min n 64 by simp [IntKind.bits]]
        have g0 : (0 : Int) ≤ ((n % 64 : Nat) : Int) := by omega
        refine ⟨by omega, g0, by omega, fun x _ => x.1 = a * b / 2 ^ n % 2, ?_, ?_⟩
        · refine Br.intro (fun u => ?_) fun u => ?_
          all_goals simp only [decide_eq_true_eq, decide_eq_false_iff_not, gt_iff_lt] at u
          · refine ⟨by omega, g0, by omega, rfl, ?_⟩
            dsimp only
            rw [shr_lit, Int.tmod_eq_emod_of_nonneg (Int.ediv_nonneg m1 (Int.pow_nonneg (by omega))), ← hi_bit n (by omega), show n % 64 = n - 64 by omega]; rfl
          · refine ⟨rfl, ?_⟩
            dsimp only
            rw [shr_lit, Int.tmod_eq_emod_of_nonneg (Int.ediv_nonneg hl.1 (Int.pow_nonneg (by omega))), ← lo_bit n (by omega), show n % 64 = n by omega]; rfl
        · rintro ⟨bit, ⟨⟩⟩ _ hb
          dsimp only at hb ⊢
          have b0 : 0 ≤ bit ∧ bit ≤ 1 := by omega
          rintro m rfl t ht
          rw [w64 (2 * rest) (by omega) (by omega), w64 (2 * rest + bit) (by omega) (by omega)] at ht
          rw [w64 (2 * rest) (by omega) (by omega), w64 (2 * rest + bit) (by omega) (by omega)]
          have mu : ((n : Int) - 1 + 1).toNat < ((n : Int) + 1).toNat := by omega
          cases t with
          | true =>
            have hge : c ≤ 2 * rest + bit := by simpa using ht.symm
            rintro m2 rfl
            rw [w64 (2 * rest + bit - c) (by omega) (by omega)]
            refine Br.intro (fun _ => Br.intro (fun u => ?_) fun u => Br.intro (fun _ => ?_) (fun v => by cases v)) fun v => by cases v
            all_goals simp only [decide_eq_true_eq, decide_eq_false_iff_not, gt_iff_lt, Int.not_lt] at u
            · rw [div_much n hI (by omega) (by omega) e f (by omega)] at h; exact h
            · refine ⟨by omega, ?_⟩
              rintro m3 rfl
              obtain ⟨k1, k2⟩ := div_one n hI (by omega) (by omega)
              have k3 : (0 : Int) < 2 ^ n := Int.pow_pos (by omega)
              rw [show min n 64 = n by omega, Int.one_mul, w64 (2 ^ n) (by omega) (by omega), w64 (q + 2 ^ n) (by omega) (by omega), hb]
              exact ⟨rfl, k1, mu⟩
          | false =>
            have hlt : 2 * rest + bit < c := by simpa using ht.symm
            refine Br.intro (fun v => by cases v) fun _ => Br.intro (fun v => by cases v) fun _ => ⟨rfl, ?_, mu⟩
            rw [hb]
            exact div_none n hI (by omega)
      · obtain rfl : i = -1 := by omega
        rw [wrap_i64_id q h3 h4, ← div_end hI e f (by omega)]; exact h
end Go.Lift

/- Contracts of seat r1: layer D (both Parts, both sames). Own work. -/
set_option linter.unusedVariables false
namespace Go.Lift
open Go.Proofs

def k3 : List K := [.int .i64, .int .i64, .int .i64]
def cPart : Con := .det k3 [.snap (.int .i64)] (fun x => I64 x.1 ∧ I64 x.2.1 ∧ I64 x.2.2.1) (fun x => (part x.1 x.2.1 x.2.2.1, ()))
theorem at12 : FnAt Try.prog 12 Try.f12.ntmps Try.f12.results.toList (Try.f12.body.getD .skip) := ⟨Try.f12, Try.func12, rfl, rfl, by simp, by decide⟩
theorem at14 : FnAt Try.prog 14 Try.f14.ntmps Try.f14.results.toList (Try.f14.body.getD .skip) := ⟨Try.f14, Try.func14, rfl, rfl, by simp, by decide⟩
theorem c12 : cPart.holds Try.prog cxC.glob 12 := by
  refine det_holds cxC_ok mixed noHn at12 ?_
  rintro ⟨a, b, c, ⟨⟩⟩ ⟨ha, hb, hc⟩
  have h := part_eval ha hb hc (post := fun r => r = (part a b c, ())) rfl
  exact (f12_eq a b c _).mpr h
theorem c14 : cPart.holds Try.prog cxC.glob 14 := by
  refine det_holds cxC_ok mixed hn14 at14 ?_
  rintro ⟨a, b, c, ⟨⟩⟩ ⟨ha, hb, hc⟩
  have h := part14_eval ha hb hc (post := fun r => r = (part a b c, ())) rfl
  exact (f14_eq a b c _).mpr h

def kLL : List K := [.slice (.int .i64), .slice (.int .i64)]
def sameL (a b : List Int) : Bool := decide (a = b)
def cSame : Con := .det kLL [.snap .bool] (fun x => True) (fun x => (sameL x.1 x.2.1, ()))
theorem f17_eq (a b : List Int) (post : Bool × Unit → Prop) : fnEval cx0 hn11 Try.f17.ntmps Try.f17.results.toList (Try.f17.body.getD .skip) [.slice (.int .i64), .slice (.int .i64)] [.snap .bool] (a, b, ()) post = F11 a b post := by kernel_rfl
theorem at11 : FnAt Try.prog 11 Try.f11.ntmps Try.f11.results.toList (Try.f11.body.getD .skip) := ⟨Try.f11, Try.func11, rfl, rfl, by simp, by decide⟩
theorem at17 : FnAt Try.prog 17 Try.f17.ntmps Try.f17.results.toList (Try.f17.body.getD .skip) := ⟨Try.f17, Try.func17, rfl, rfl, by simp, by decide⟩
theorem c11 : cSame.holds Try.prog cx0.glob 11 := by
  refine det_holds_wf cx0_ok mixed hn11 at11 ?_
  rintro ⟨a, b, ⟨⟩⟩ _ ⟨⟨ha, _⟩, _⟩
  have h := same_eval (a := a) (b := b) ha (post := fun r => r = (sameL a b, ())) rfl
  exact (f11_eq a b _).mpr h
theorem c17 : cSame.holds Try.prog cx0.glob 17 := by
  refine det_holds_wf cx0_ok mixed hn11 at17 ?_
  rintro ⟨a, b, ⟨⟩⟩ _ ⟨⟨ha, _⟩, _⟩
  have h := same_eval (a := a) (b := b) ha (post := fun r => r = (sameL a b, ())) rfl
  exact (f17_eq a b _).mpr h

def conD (f : Nat) : Option Con := match f with
  | 11 => some cSame
  | 12 => some cPart
  | 14 => some cPart
  | 17 => some cSame
  | _ => none
def cxD : Cx := ⟨tab1, conD, fun _ => none⟩
theorem cxD_ok : CxOk Try.prog cxD := ⟨tab1_fits, fun f con h => by
  simp only [cxD, conD] at h
  split at h
  · cases h; exact c11
  · cases h; exact c12
  · cases h; exact c14
  · cases h; exact c17
  · cases h⟩
end Go.Lift

/- Takes and Cut, the program's and the document's: lifted. Own work. -/
set_option linter.unusedVariables false
set_option linter.unusedSimpArgs false
namespace Go.Lift
open Go.Proofs
def di : CK := .data (.int .i64)
def hn9 : Hn := { loops := fun k => match k with | 7 => some { ls := [(.slot 9, di), (.slot 10, di), (.slot 25, di)], os := [(0, 2, .int .i64)] } | _ => none, joins := fun _ => none, binds := fun k => match k with | 11 => [9] | 12 => [13] | _ => [] }
def hn10 : Hn := { loops := fun k => match k with | 7 => some { ls := [(.slot 9, di), (.slot 10, di), (.slot 11, di), (.slot 8, .row 2 (.int .i64))], os := [] } | _ => none, joins := fun _ => none, binds := fun k => match k with | 11 => [9] | 12 => [12] | _ => [] }
def hn15 : Hn := { loops := fun k => match k with | 5 => some { ls := [(.slot 6, di), (.slot 16, di)], os := [] } | 13 => some { ls := [(.slot 37, di)], os := [(0, 2, .int .i64)] } | _ => none, joins := fun k => match k with | 17 => some { ls := [(.slot 11, di)], os := [] } | _ => none, binds := fun k => match k with | 9 => [6] | _ => [] }
def hn16 : Hn := { loops := fun k => match k with | 5 => some { ls := [(.slot 6, di), (.slot 7, di)], os := [] } | 12 => some { ls := [(.slot 9, di), (.slot 8, .row 2 (.int .i64))], os := [] } | _ => none, joins := fun k => match k with | 17 => some { ls := [(.slot 10, di)], os := [] } | _ => none, binds := fun k => match k with | 9 => [6] | _ => [] }
def F9 := fun (a b : Int) (c : List Int) (post : List Int × Int × Unit → Prop) =>
  Br (decide (a < (0 : Int))) (post ([], (1 : Int), ()))
    (Br (decide (b < (0 : Int))) (post ([], (1 : Int), ()))
      (∃ (h : (0 : Int) ≤ (↑c.length : Int) ∧ (↑c.length : Int) ≤ (↑c.length : Int) ∧ (↑c.length : Int) * (↑(8 : Nat) : Int) ≤ (281474976710656 : Int)),
        HIs [HObj.row Md.rw (2 : Nat) (K.int IntKind.i64) (List.replicate c.length (0 : Int))]
            [HObj.row Md.rw (2 : Nat) (K.int IntKind.i64) (List.replicate c.length (0 : Int))] ∧
          ∃ (I : Int × Int × Int × Unit → List Int × Unit → Prop),
            ∃ (μ : Int × Int × Int × Unit → List Int × Unit → Nat),
              I ((0 : Int), (0 : Int), (0 : Int), ()) (List.replicate c.length (0 : Int), ()) ∧
                ∀ (x : Int × Int × Int × Unit) (y : List Int × Unit),
                  I x y →
                    Br (decide (x.snd.snd.fst < (↑c.length : Int)))
                      (∃ (h : (0 : Int) ≤ x.snd.snd.fst ∧ x.snd.snd.fst < (↑c.length : Int)),
                        Br (decide (c.getD x.snd.snd.fst.toNat (0 : Int) < (0 : Int))) (post ([], (1 : Int), ()))
                          (Br (decide (c.getD x.snd.snd.fst.toNat (0 : Int) > IntKind.i64.wrap (a - x.fst))) (post ([], (1 : Int), ()))
                            (∀ (m : Int),
                              m = IntKind.i64.wrap (x.fst + c.getD x.snd.snd.fst.toNat (0 : Int)) →
                                ∃ (h : I64 b ∧ I64 m ∧ I64 a),
                                  ∀ (m_1 : Int),
                                    m_1 = part b m a →
                                      ∃ (h : (0 : Int) ≤ x.snd.snd.fst ∧ x.snd.snd.fst < (↑c.length : Int)),
                                        HIs
                                            [HObj.row Md.rw (2 : Nat) (K.int IntKind.i64)
                                                (y.fst.set ((0 : Nat) + x.snd.snd.fst.toNat) (IntKind.i64.wrap (m_1 - x.snd.fst)))]
                                            [HObj.row Md.rw (2 : Nat) (K.int IntKind.i64)
                                                (y.fst.set ((0 : Nat) + x.snd.snd.fst.toNat) (IntKind.i64.wrap (m_1 - x.snd.fst)))] ∧
                                          I (m, m_1, IntKind.i64.wrap (x.snd.snd.fst + (1 : Int)), ())
                                              (y.fst.set ((0 : Nat) + x.snd.snd.fst.toNat) (IntKind.i64.wrap (m_1 - x.snd.fst)), ()) ∧
                                            μ (m, m_1, IntKind.i64.wrap (x.snd.snd.fst + (1 : Int)), ())
                                                (y.fst.set ((0 : Nat) + x.snd.snd.fst.toNat) (IntKind.i64.wrap (m_1 - x.snd.fst)), ()) <
                                              μ x y)))
                      (((0 : Nat) = (0 : Nat) ∧ c.length = y.fst.length) ∧ post (y.fst, (0 : Int), ()))))
def F10 := fun (a b : Int) (c : List Int) (post : List Int × Int × Unit → Prop) =>
  Br (decide (a < (0 : Int))) (post ([], (1 : Int), ()))
    (Br (decide (b < (0 : Int))) (post ([], (1 : Int), ()))
      (((0 : Nat) = (0 : Nat) ∧ (0 : Nat) = (0 : Nat)) ∧
        HIs [HObj.dead] [HObj.dead] ∧
          ∃ (I : Int × Int × Int × List Int × Unit → Unit → Prop),
            ∃ (μ : Int × Int × Int × List Int × Unit → Unit → Nat),
              I ((0 : Int), (0 : Int), (0 : Int), [], ()) () ∧
                ∀ (x : Int × Int × Int × List Int × Unit) (y : Unit),
                  I x y →
                    Br (decide (x.snd.snd.fst < (↑c.length : Int)))
                      (∃ (h : (0 : Int) ≤ x.snd.snd.fst ∧ x.snd.snd.fst < (↑c.length : Int)),
                        Br (decide (c.getD x.snd.snd.fst.toNat (0 : Int) < (0 : Int))) (post ([], (1 : Int), ()))
                          (∃ (h : (0 : Int) ≤ x.snd.snd.fst ∧ x.snd.snd.fst < (↑c.length : Int)),
                            Br (decide (c.getD x.snd.snd.fst.toNat (0 : Int) > IntKind.i64.wrap (a - x.fst))) (post ([], (1 : Int), ()))
                              (∃ (h : (0 : Int) ≤ x.snd.snd.fst ∧ x.snd.snd.fst < (↑c.length : Int)),
                                ∀ (m : Int),
                                  m = IntKind.i64.wrap (x.fst + c.getD x.snd.snd.fst.toNat (0 : Int)) →
                                    ∃ (h : I64 b ∧ I64 m ∧ I64 a),
                                      ∀ (m_1 : Int),
                                        m_1 = part b m a →
                                          ∃ (h :
                                            x.snd.snd.snd.fst.length = x.snd.snd.snd.fst.length ∧ (x.snd.snd.snd.fst.length + (1 : Nat)) * (8 : Nat) ≤ (140737488355328 : Nat)),
                                            ((0 : Nat) = (0 : Nat) ∧ x.snd.snd.snd.fst.length + (1 : Nat) = (x.snd.snd.snd.fst ++ [IntKind.i64.wrap (m_1 - x.snd.fst)]).length) ∧
                                              HIs [HObj.dead] [HObj.dead] ∧
                                                I (m, m_1, IntKind.i64.wrap (x.snd.snd.fst + (1 : Int)), x.snd.snd.snd.fst ++ [IntKind.i64.wrap (m_1 - x.snd.fst)], ()) () ∧
                                                  μ (m, m_1, IntKind.i64.wrap (x.snd.snd.fst + (1 : Int)), x.snd.snd.snd.fst ++ [IntKind.i64.wrap (m_1 - x.snd.fst)], ()) () <
                                                    μ x y)))
                      (((0 : Nat) = (0 : Nat) ∧ x.snd.snd.snd.fst.length = x.snd.snd.snd.fst.length) ∧ post (x.snd.snd.snd.fst, (0 : Int), ()))))
def F15 := fun (a : Int) (c : List Int) (post : List Int × Int × Unit → Prop) =>
  Br (decide (a < (0 : Int))) (post ([], (1 : Int), ()))
    (HIs [] [] ∧
      ∃ (I : Int × Int × Unit → Unit → Prop),
        ∃ (μ : Int × Int × Unit → Unit → Nat),
          I ((0 : Int), (0 : Int), ()) () ∧
            ∀ (x : Int × Int × Unit) (y : Unit),
              I x y →
                Br (decide (x.snd.fst < (↑c.length : Int)))
                  (∃ (h : (0 : Int) ≤ x.snd.fst ∧ x.snd.fst < (↑c.length : Int)),
                    Br (decide (c.getD x.snd.fst.toNat (0 : Int) < (0 : Int))) (post ([], (1 : Int), ()))
                      (Br (decide (c.getD x.snd.fst.toNat (0 : Int) > IntKind.i64.wrap ((9223372036854775807 : Int) - x.fst))) (post ([], (1 : Int), ()))
                        (∀ (m : Int),
                          m = IntKind.i64.wrap (x.fst + c.getD x.snd.fst.toNat (0 : Int)) →
                            HIs [] [] ∧ I (m, IntKind.i64.wrap (x.snd.fst + (1 : Int)), ()) () ∧ μ (m, IntKind.i64.wrap (x.snd.fst + (1 : Int)), ()) () < μ x y)))
                  (∃ (h : (0 : Int) ≤ (↑c.length : Int) ∧ (↑c.length : Int) ≤ (↑c.length : Int) ∧ (↑c.length : Int) * (↑(8 : Nat) : Int) ≤ (281474976710656 : Int)),
                    HIs [HObj.row Md.rw (2 : Nat) (K.int IntKind.i64) (List.replicate c.length (0 : Int))]
                        [HObj.row Md.rw (2 : Nat) (K.int IntKind.i64) (List.replicate c.length (0 : Int))] ∧
                      ∃ (I : Int × Unit → List Int × Unit → Prop),
                        ∃ (μ : Int × Unit → List Int × Unit → Nat),
                          I ((0 : Int), ()) (List.replicate c.length (0 : Int), ()) ∧
                            ∀ (x_2 : Int × Unit) (y : List Int × Unit),
                              I x_2 y →
                                Br (decide (x_2.fst < (↑c.length : Int)))
                                  (∃ (h : (0 : Int) ≤ x_2.fst ∧ x_2.fst < (↑c.length : Int)),
                                    ∃ (post : Int × Unit → Unit → Prop),
                                      Br (decide (x.fst > a))
                                          (∃ (h : I64 (c.getD x_2.fst.toNat (0 : Int)) ∧ I64 a ∧ I64 x.fst),
                                            HIs [HObj.row Md.rw (2 : Nat) (K.int IntKind.i64) y.fst]
                                                [HObj.row Md.rw (2 : Nat) (K.int IntKind.i64) y.fst] ∧
                                              post (part (c.getD x_2.fst.toNat (0 : Int)) a x.fst, ()) ())
                                          (HIs [HObj.row Md.rw (2 : Nat) (K.int IntKind.i64) y.fst]
                                              [HObj.row Md.rw (2 : Nat) (K.int IntKind.i64) y.fst] ∧
                                            post (c.getD x_2.fst.toNat (0 : Int), ()) ()) ∧
                                        ∀ (x : Int × Unit) (y_1 : Unit),
                                          post x y_1 →
                                            ∃ (h : (0 : Int) ≤ x_2.fst ∧ x_2.fst < (↑c.length : Int)),
                                              HIs [HObj.row Md.rw (2 : Nat) (K.int IntKind.i64) (y.fst.set ((0 : Nat) + x_2.fst.toNat) x.fst)]
                                                  [HObj.row Md.rw (2 : Nat) (K.int IntKind.i64) (y.fst.set ((0 : Nat) + x_2.fst.toNat) x.fst)] ∧
                                                I (IntKind.i64.wrap (x_2.fst + (1 : Int)), ()) (y.fst.set ((0 : Nat) + x_2.fst.toNat) x.fst, ()) ∧
                                                  μ (IntKind.i64.wrap (x_2.fst + (1 : Int)), ()) (y.fst.set ((0 : Nat) + x_2.fst.toNat) x.fst, ()) < μ x_2 y)
                                  (((0 : Nat) = (0 : Nat) ∧ c.length = y.fst.length) ∧ post (y.fst, (0 : Int), ()))))
def F16 := fun (a : Int) (c : List Int) (post : List Int × Int × Unit → Prop) =>
  Br (decide (a < (0 : Int))) (post ([], (1 : Int), ()))
    (HIs [] [] ∧
      ∃ (I : Int × Int × Unit → Unit → Prop),
        ∃ (μ : Int × Int × Unit → Unit → Nat),
          I ((0 : Int), (0 : Int), ()) () ∧
            ∀ (x : Int × Int × Unit) (y : Unit),
              I x y →
                Br (decide (x.snd.fst < (↑c.length : Int)))
                  (∃ (h : (0 : Int) ≤ x.snd.fst ∧ x.snd.fst < (↑c.length : Int)),
                    Br (decide (c.getD x.snd.fst.toNat (0 : Int) < (0 : Int))) (post ([], (1 : Int), ()))
                      (∃ (h : (0 : Int) ≤ x.snd.fst ∧ x.snd.fst < (↑c.length : Int)),
                        Br (decide (c.getD x.snd.fst.toNat (0 : Int) > IntKind.i64.wrap ((9223372036854775807 : Int) - x.fst))) (post ([], (1 : Int), ()))
                          (∃ (h : (0 : Int) ≤ x.snd.fst ∧ x.snd.fst < (↑c.length : Int)),
                            ∀ (m : Int),
                              m = IntKind.i64.wrap (x.fst + c.getD x.snd.fst.toNat (0 : Int)) →
                                HIs [] [] ∧ I (m, IntKind.i64.wrap (x.snd.fst + (1 : Int)), ()) () ∧ μ (m, IntKind.i64.wrap (x.snd.fst + (1 : Int)), ()) () < μ x y)))
                  (((0 : Nat) = (0 : Nat) ∧ (0 : Nat) = (0 : Nat)) ∧
                    HIs [HObj.dead] [HObj.dead] ∧
                      ∃ (I : Int × List Int × Unit → Unit → Prop),
                        ∃ (μ : Int × List Int × Unit → Unit → Nat),
                          I ((0 : Int), [], ()) () ∧
                            ∀ (x_2 : Int × List Int × Unit) (y : Unit),
                              I x_2 y →
                                Br (decide (x_2.fst < (↑c.length : Int)))
                                  (∃ (h : (0 : Int) ≤ x_2.fst ∧ x_2.fst < (↑c.length : Int)),
                                    ∃ (post : Int × Unit → Unit → Prop),
                                      Br (decide (x.fst > a))
                                          (∃ (h : I64 (c.getD x_2.fst.toNat (0 : Int)) ∧ I64 a ∧ I64 x.fst),
                                            HIs [HObj.dead, HObj.row Md.rw (2 : Nat) (K.int IntKind.i64) x_2.snd.fst]
                                                [HObj.dead, HObj.row Md.rw (2 : Nat) (K.int IntKind.i64) x_2.snd.fst] ∧
                                              post (part (c.getD x_2.fst.toNat (0 : Int)) a x.fst, ()) ())
                                          (HIs [HObj.dead, HObj.row Md.rw (2 : Nat) (K.int IntKind.i64) x_2.snd.fst]
                                              [HObj.dead, HObj.row Md.rw (2 : Nat) (K.int IntKind.i64) x_2.snd.fst] ∧
                                            post (c.getD x_2.fst.toNat (0 : Int), ()) ()) ∧
                                        ∀ (x : Int × Unit) (y_1 : Unit),
                                          post x y_1 →
                                            ∃ (h : x_2.snd.fst.length = x_2.snd.fst.length ∧ (x_2.snd.fst.length + (1 : Nat)) * (8 : Nat) ≤ (140737488355328 : Nat)),
                                              ((0 : Nat) = (0 : Nat) ∧ x_2.snd.fst.length + (1 : Nat) = (x_2.snd.fst ++ [x.fst]).length) ∧
                                                HIs [HObj.dead] [HObj.dead] ∧
                                                  I (IntKind.i64.wrap (x_2.fst + (1 : Int)), x_2.snd.fst ++ [x.fst], ()) () ∧
                                                    μ (IntKind.i64.wrap (x_2.fst + (1 : Int)), x_2.snd.fst ++ [x.fst], ()) () < μ x_2 y)
                                  (((0 : Nat) = (0 : Nat) ∧ x_2.snd.fst.length = x_2.snd.fst.length) ∧ post (x_2.snd.fst, (0 : Int), ()))))
theorem f9_eq (a b : Int) (c : List Int) (post : List Int × Int × Unit → Prop) : fnEval cxD hn9 Try.f9.ntmps Try.f9.results.toList (Try.f9.body.getD .skip) [.int .i64, .int .i64, .slice (.int .i64)] [.own 2 (.int .i64), .snap (.int .i64)] (a, b, c, ()) post = F9 a b c post := by kernel_rfl
theorem f10_eq (a b : Int) (c : List Int) (post : List Int × Int × Unit → Prop) : fnEval cxD hn10 Try.f10.ntmps Try.f10.results.toList (Try.f10.body.getD .skip) [.int .i64, .int .i64, .slice (.int .i64)] [.own 2 (.int .i64), .snap (.int .i64)] (a, b, c, ()) post = F10 a b c post := by kernel_rfl
theorem f15_eq (a : Int) (c : List Int) (post : List Int × Int × Unit → Prop) : fnEval cxD hn15 Try.f15.ntmps Try.f15.results.toList (Try.f15.body.getD .skip) [.int .i64, .slice (.int .i64)] [.own 2 (.int .i64), .snap (.int .i64)] (a, c, ()) post = F15 a c post := by kernel_rfl
theorem f16_eq (a : Int) (c : List Int) (post : List Int × Int × Unit → Prop) : fnEval cxD hn16 Try.f16.ntmps Try.f16.results.toList (Try.f16.body.getD .skip) [.int .i64, .slice (.int .i64)] [.own 2 (.int .i64), .snap (.int .i64)] (a, c, ()) post = F16 a c post := by kernel_rfl
end Go.Lift

/- Takes and Cut, the program's and the document's: what they answer. Own work. -/
set_option linter.unusedVariables false
set_option linter.unusedSimpArgs false
namespace Go.Lift

theorem wi {x : Int} (h : I64 x) : IntKind.i64.wrap x = x := by obtain ⟨h1, h2⟩ := h; simp [IntKind.wrap, IntKind.bits, IntKind.signed]; omega

theorem takesF_neg1 {a b : Int} {c : List Int} (h : a < 0) : takesF a b c = ([], 1) := by unfold takesF; rw [if_pos h]
theorem takesF_neg2 {a b : Int} {c : List Int} (h : b < 0) : takesF a b c = ([], 1) := by unfold takesF; split <;> simp [h]
theorem takesF_bad {a b : Int} {c : List Int} {i : Nat} (hi : i < c.length) (h : ¬ (0 ≤ c.getD i 0 ∧ psum c (i + 1) ≤ a)) : takesF a b c = ([], 1) := by
  have : takesOk a c = false := by
    rw [Bool.eq_false_iff]; intro e; exact h ((takesOk_iff a c).1 e i hi)
  unfold takesF; split
  · rfl
  · split
    · rfl
    · simp [this]
theorem takesF_ok {a b : Int} {c : List Int} (ha : 0 ≤ a) (hb : 0 ≤ b) (h : okTo a c c.length) : takesF a b c = (takesOut a b c, 0) := by
  unfold takesF; rw [if_neg (by omega), if_neg (by omega), if_pos ((takesOk_iff a c).2 h)]

theorem takes9_eval {a b : Int} {c : List Int} (ha : I64 a) (hb : I64 b) (hc : ∀ x ∈ c, I64 x) (hl : c.length ≤ 65536) {post : List Int × Int × Unit → Prop} (h : post ((takesF a b c).1, (takesF a b c).2, ())) : F9 a b c post := by
  unfold F9
  refine Br.intro (fun e => ?_) fun e => Br.intro (fun f => ?_) fun f => ?_
  all_goals simp only [decide_eq_true_eq, decide_eq_false_iff_not, Int.not_lt] at *
  · rw [takesF_neg1 e] at h; exact h
  · rw [takesF_neg2 f] at h; exact h
  · refine ⟨⟨by omega, by omega, by omega⟩, rfl, fun x y => ∃ i : Nat, x.2.2.1 = i ∧ i ≤ c.length ∧ okTo a c i ∧ x.1 = psum c i ∧ x.2.1 = part b (psum c i) a ∧ y.1 = filled 0 (takesOut a b c) i,
      fun x _ => c.length - x.2.2.1.toNat, ?_, ?_⟩
    · refine ⟨0, rfl, by omega, okTo_zero a c, (psum_zero c).symm, ?_, ?_⟩
      · dsimp only; rw [psum_zero, part_zero]
      · rw [filled_zero, takesOut_len]
    · rintro ⟨gone, ahead, _, ⟨⟩⟩ ⟨y, ⟨⟩⟩ ⟨i, hi, hil, hok, hg, ha', hy⟩
      dsimp only at hi hg ha' hy ⊢
      subst hi hg ha' hy
      have p0 := psum_nonneg hok hil
      have p1 := psum_le e hok
      obtain ⟨a1, a2⟩ := ha
      refine Br.intro (fun d => ?_) fun d => ?_
      all_goals simp only [decide_eq_true_eq, decide_eq_false_iff_not, Int.not_lt] at d
      · have hlt : i < c.length := by omega
        have hs := psum_succ c i hlt
        have hx : I64 (c.getD i 0) := hc _ (mem_getD hlt)
        refine ⟨⟨by omega, d⟩, ?_⟩
        simp only [Int.toNat_natCast]
        rw [wi (x := a - psum c i) ⟨by omega, by omega⟩]
        refine Br.intro (fun g => ?_) fun g => Br.intro (fun g' => ?_) fun g' => ?_
        all_goals simp only [decide_eq_true_eq, decide_eq_false_iff_not, Int.not_lt, gt_iff_lt] at g
        · rw [takesF_bad hlt (by omega)] at h; exact h
        · simp only [decide_eq_true_eq, gt_iff_lt] at g'
          rw [takesF_bad hlt (by omega)] at h; exact h
        · simp only [decide_eq_false_iff_not, Int.not_lt, gt_iff_lt] at g'
          rintro m hm
          rw [← hs, wi (x := psum c (i + 1)) ⟨by omega, by omega⟩] at hm
          subst hm
          refine ⟨⟨hb, ⟨by omega, by omega⟩, a1, a2⟩, ?_⟩
          rintro t rfl
          have r1 := part_range b (psum c (i + 1)) a
          have r2 := part_range b (psum c i) a
          refine ⟨⟨by omega, by omega⟩, rfl, ⟨i + 1, ?_, by omega, okTo_succ hok g (by omega), rfl, rfl, ?_⟩, ?_⟩
          · rw [wi ⟨by omega, by omega⟩]; omega
          · try dsimp only
            rw [wi (x := part b (psum c (i + 1)) a - part b (psum c i) a) ⟨by omega, by omega⟩, Nat.zero_add]
            exact filled_set 0 _ i (by rw [takesOut_len]; exact hlt) (takesOut_get a b c i hlt)
          · try dsimp only
            rw [wi ⟨by omega, by omega⟩]; omega
      · have : i = c.length := by omega
        subst this
        have hlen : (filled 0 (takesOut a b c) c.length).length = c.length := by rw [filled_len _ _ _ (by rw [takesOut_len]; omega), takesOut_len]
        refine ⟨⟨by trivial, by rw [hlen]⟩, ?_⟩
        rw [takesF_ok e f hok] at h
        have e2 := filled_all 0 (takesOut a b c)
        rw [takesOut_len] at e2
        rw [e2]; exact h

theorem takes10_eval {a b : Int} {c : List Int} (ha : I64 a) (hb : I64 b) (hc : ∀ x ∈ c, I64 x) (hl : c.length ≤ 65536) {post : List Int × Int × Unit → Prop} (h : post ((takesF a b c).1, (takesF a b c).2, ())) : F10 a b c post := by
  unfold F10
  refine Br.intro (fun e => ?_) fun e => Br.intro (fun f => ?_) fun f => ?_
  all_goals simp only [decide_eq_true_eq, decide_eq_false_iff_not, Int.not_lt] at *
  · rw [takesF_neg1 e] at h; exact h
  · rw [takesF_neg2 f] at h; exact h
  · refine ⟨⟨by trivial, by trivial⟩, rfl, fun x y => ∃ i : Nat, x.2.2.1 = i ∧ i ≤ c.length ∧ okTo a c i ∧ x.1 = psum c i ∧ x.2.1 = part b (psum c i) a ∧ x.2.2.2.1 = (takesOut a b c).take i,
      fun x _ => c.length - x.2.2.1.toNat, ?_, ?_⟩
    · refine ⟨0, rfl, by omega, okTo_zero a c, (psum_zero c).symm, ?_, ?_⟩
      · dsimp only; rw [psum_zero, part_zero]
      · simp
    · rintro ⟨gone, ahead, _, y, ⟨⟩⟩ ⟨⟩ ⟨i, hi, hil, hok, hg, ha', hy⟩
      dsimp only at hi hg ha' hy ⊢
      subst hi hg ha' hy
      have p0 := psum_nonneg hok hil
      have p1 := psum_le e hok
      obtain ⟨a1, a2⟩ := ha
      have hlen : ((takesOut a b c).take i).length = i := by rw [List.length_take, takesOut_len]; omega
      refine Br.intro (fun d => ?_) fun d => ?_
      all_goals simp only [decide_eq_true_eq, decide_eq_false_iff_not, Int.not_lt] at d
      · have hlt : i < c.length := by omega
        have hs := psum_succ c i hlt
        have hx : I64 (c.getD i 0) := hc _ (mem_getD hlt)
        have q0 : (0 : Int) ≤ i ∧ (i : Int) < c.length := ⟨by omega, d⟩
        refine ⟨q0, ?_⟩
        simp only [Int.toNat_natCast]
        rw [wi (x := a - psum c i) ⟨by omega, by omega⟩]
        refine Br.intro (fun g => ?_) fun g => ⟨q0, Br.intro (fun g' => ?_) fun g' => ⟨q0, ?_⟩⟩
        all_goals simp only [decide_eq_true_eq, decide_eq_false_iff_not, Int.not_lt, gt_iff_lt] at g
        · rw [takesF_bad hlt (by omega)] at h; exact h
        · simp only [decide_eq_true_eq, gt_iff_lt] at g'
          rw [takesF_bad hlt (by omega)] at h; exact h
        · simp only [decide_eq_false_iff_not, Int.not_lt, gt_iff_lt] at g'
          rintro m hm
          rw [← hs, wi (x := psum c (i + 1)) ⟨by omega, by omega⟩] at hm
          subst hm
          refine ⟨⟨hb, ⟨by omega, by omega⟩, a1, a2⟩, ?_⟩
          rintro t rfl
          have r1 := part_range b (psum c (i + 1)) a
          have r2 := part_range b (psum c i) a
          rw [wi (x := part b (psum c (i + 1)) a - part b (psum c i) a) ⟨by omega, by omega⟩]
          rw [take_next _ i (takesOut_get a b c i hlt)]
          refine ⟨⟨by trivial, by rw [hlen]; omega⟩, ⟨by trivial, by rw [hlen, List.length_take, takesOut_len]; omega⟩, rfl, ⟨i + 1, ?_, by omega, okTo_succ hok g (by omega), rfl, rfl, rfl⟩, ?_⟩
          · rw [wi ⟨by omega, by omega⟩]; omega
          · try dsimp only
            rw [wi ⟨by omega, by omega⟩]; omega
      · have : i = c.length := by omega
        subst this
        refine ⟨⟨by trivial, by trivial⟩, ?_⟩
        rw [takesF_ok e f hok] at h
        rw [List.take_of_length_le (by rw [takesOut_len]; omega)]; exact h
end Go.Lift

/- Cut, the program's and the document's: what they answer. Own work. -/
set_option linter.unusedVariables false
set_option linter.unusedSimpArgs false
namespace Go.Lift

theorem cutF_neg {a : Int} {c : List Int} (h : a < 0) : cutF a c = ([], 1) := by unfold cutF; rw [if_pos h]
theorem cutF_bad {a : Int} {c : List Int} {i : Nat} (hi : i < c.length) (h : ¬ (0 ≤ c.getD i 0 ∧ psum c (i + 1) ≤ 9223372036854775807)) : cutF a c = ([], 1) := by
  have : cutOk c = false := by
    rw [Bool.eq_false_iff]; intro e; exact h ((cutOk_iff c).1 e i hi)
  unfold cutF; split
  · rfl
  · simp [this]
theorem cutF_ok {a : Int} {c : List Int} (ha : 0 ≤ a) (h : okTo 9223372036854775807 c c.length) : cutF a c = (cutOut a c, 0) := by
  unfold cutF; rw [if_neg (by omega), if_pos ((cutOk_iff c).2 h)]

theorem cut15_eval {a : Int} {c : List Int} (ha : I64 a) (hc : ∀ x ∈ c, I64 x) (hl : c.length ≤ 65536) {post : List Int × Int × Unit → Prop} (h : post ((cutF a c).1, (cutF a c).2, ())) : F15 a c post := by
  unfold F15
  refine Br.intro (fun e => ?_) fun e => ?_
  all_goals simp only [decide_eq_true_eq, decide_eq_false_iff_not, Int.not_lt] at e
  · rw [cutF_neg e] at h; exact h
  · refine ⟨rfl, fun x y => ∃ i : Nat, x.2.1 = i ∧ i ≤ c.length ∧ okTo 9223372036854775807 c i ∧ x.1 = psum c i, fun x _ => c.length - x.2.1.toNat, ⟨0, rfl, by omega, okTo_zero _ c, (psum_zero c).symm⟩, ?_⟩
    rintro ⟨sum, _, ⟨⟩⟩ ⟨⟩ ⟨i, hi, hil, hok, hg⟩
    dsimp only at hi hg ⊢
    subst hi hg
    have p0 := psum_nonneg hok hil
    have p1 := psum_le (by omega) hok
    refine Br.intro (fun d => ?_) fun d => ?_
    all_goals simp only [decide_eq_true_eq, decide_eq_false_iff_not, Int.not_lt] at d
    · have hlt : i < c.length := by omega
      have hs := psum_succ c i hlt
      have hx : I64 (c.getD i 0) := hc _ (mem_getD hlt)
      obtain ⟨x1, x2⟩ := hx
      refine ⟨⟨by omega, d⟩, ?_⟩
      simp only [Int.toNat_natCast]
      rw [wi (x := 9223372036854775807 - psum c i) ⟨by omega, by omega⟩]
      refine Br.intro (fun g => ?_) fun g => Br.intro (fun g' => ?_) fun g' => ?_
      all_goals simp only [decide_eq_true_eq, decide_eq_false_iff_not, Int.not_lt, gt_iff_lt] at g
      · rw [cutF_bad hlt (by omega)] at h; exact h
      · simp only [decide_eq_true_eq, gt_iff_lt] at g'
        rw [cutF_bad hlt (by omega)] at h; exact h
      · simp only [decide_eq_false_iff_not, Int.not_lt, gt_iff_lt] at g'
        rintro m hm
        rw [← hs, wi (x := psum c (i + 1)) ⟨by omega, by omega⟩] at hm
        subst hm
        refine ⟨rfl, ⟨i + 1, ?_, by omega, okTo_succ hok g (by omega), rfl⟩, ?_⟩
        · rw [wi ⟨by omega, by omega⟩]; omega
        · rw [wi ⟨by omega, by omega⟩]; omega
    · have : i = c.length := by omega
      subst this
      rw [cutF_ok e hok] at h
      refine ⟨⟨by omega, by omega, by omega⟩, rfl, fun x y => ∃ i : Nat, x.1 = i ∧ i ≤ c.length ∧ y.1 = filled 0 (cutOut a c) i, fun x _ => c.length - x.1.toNat, ⟨0, rfl, by omega, ?_⟩, ?_⟩
      · rw [filled_zero, cutOut_len]
      · rintro ⟨_, ⟨⟩⟩ ⟨y, ⟨⟩⟩ ⟨i, hi, hil, hy⟩
        dsimp only at hi hy ⊢
        subst hi hy
        refine Br.intro (fun d => ?_) fun d => ?_
        all_goals simp only [decide_eq_true_eq, decide_eq_false_iff_not, Int.not_lt] at d
        · have hlt : i < c.length := by omega
          simp only [Int.toNat_natCast]
          refine ⟨⟨by omega, d⟩, fun x _ => (cutOut a c)[i]? = some x.1, Br.intro (fun g => ?_) fun g => ?_, ?_⟩
          all_goals try simp only [decide_eq_true_eq, decide_eq_false_iff_not, Int.not_lt] at g
          · refine ⟨⟨hc _ (mem_getD hlt), ha, by omega, by omega⟩, rfl, ?_⟩
            rw [cutOut_get a c i hlt, if_pos g]
          · refine ⟨rfl, ?_⟩
            rw [cutOut_get a c i hlt, if_neg (by omega)]
          · rintro ⟨x, ⟨⟩⟩ _ hx
            refine ⟨⟨by omega, d⟩, rfl, ⟨i + 1, ?_, by omega, ?_⟩, ?_⟩
            · rw [wi ⟨by omega, by omega⟩]; omega
            · rw [Nat.zero_add]
              exact filled_set 0 _ i (by rw [cutOut_len]; exact hlt) hx
            · rw [wi ⟨by omega, by omega⟩]; omega
        · have : i = c.length := by omega
          subst this
          have e2 := filled_all 0 (cutOut a c)
          rw [cutOut_len] at e2
          rw [e2, cutOut_len]
          exact ⟨⟨by trivial, by trivial⟩, h⟩

theorem cut16_eval {a : Int} {c : List Int} (ha : I64 a) (hc : ∀ x ∈ c, I64 x) (hl : c.length ≤ 65536) {post : List Int × Int × Unit → Prop} (h : post ((cutF a c).1, (cutF a c).2, ())) : F16 a c post := by
  unfold F16
  refine Br.intro (fun e => ?_) fun e => ?_
  all_goals simp only [decide_eq_true_eq, decide_eq_false_iff_not, Int.not_lt] at e
  · rw [cutF_neg e] at h; exact h
  · refine ⟨rfl, fun x y => ∃ i : Nat, x.2.1 = i ∧ i ≤ c.length ∧ okTo 9223372036854775807 c i ∧ x.1 = psum c i, fun x _ => c.length - x.2.1.toNat, ⟨0, rfl, by omega, okTo_zero _ c, (psum_zero c).symm⟩, ?_⟩
    rintro ⟨sum, _, ⟨⟩⟩ ⟨⟩ ⟨i, hi, hil, hok, hg⟩
    dsimp only at hi hg ⊢
    subst hi hg
    have p0 := psum_nonneg hok hil
    have p1 := psum_le (by omega) hok
    refine Br.intro (fun d => ?_) fun d => ?_
    all_goals simp only [decide_eq_true_eq, decide_eq_false_iff_not, Int.not_lt] at d
    · have hlt : i < c.length := by omega
      have hs := psum_succ c i hlt
      have hx : I64 (c.getD i 0) := hc _ (mem_getD hlt)
      obtain ⟨x1, x2⟩ := hx
      have q0 : (0 : Int) ≤ i ∧ (i : Int) < c.length := ⟨by omega, d⟩
      refine ⟨q0, ?_⟩
      simp only [Int.toNat_natCast]
      rw [wi (x := 9223372036854775807 - psum c i) ⟨by omega, by omega⟩]
      refine Br.intro (fun g => ?_) fun g => ⟨q0, Br.intro (fun g' => ?_) fun g' => ⟨q0, ?_⟩⟩
      all_goals simp only [decide_eq_true_eq, decide_eq_false_iff_not, Int.not_lt, gt_iff_lt] at g
      · rw [cutF_bad hlt (by omega)] at h; exact h
      · simp only [decide_eq_true_eq, gt_iff_lt] at g'
        rw [cutF_bad hlt (by omega)] at h; exact h
      · simp only [decide_eq_false_iff_not, Int.not_lt, gt_iff_lt] at g'
        rintro m hm
        rw [← hs, wi (x := psum c (i + 1)) ⟨by omega, by omega⟩] at hm
        subst hm
        refine ⟨rfl, ⟨i + 1, ?_, by omega, okTo_succ hok g (by omega), rfl⟩, ?_⟩
        · rw [wi ⟨by omega, by omega⟩]; omega
        · rw [wi ⟨by omega, by omega⟩]; omega
    · have : i = c.length := by omega
      subst this
      rw [cutF_ok e hok] at h
      refine ⟨⟨by trivial, by trivial⟩, rfl, fun x y => ∃ i : Nat, x.1 = i ∧ i ≤ c.length ∧ x.2.1 = (cutOut a c).take i, fun x _ => c.length - x.1.toNat, ⟨0, rfl, by omega, by simp⟩, ?_⟩
      · rintro ⟨_, y, ⟨⟩⟩ ⟨⟩ ⟨i, hi, hil, hy⟩
        dsimp only at hi hy ⊢
        subst hi hy
        have hlen : ((cutOut a c).take i).length = i := by rw [List.length_take, cutOut_len]; omega
        refine Br.intro (fun d => ?_) fun d => ?_
        all_goals simp only [decide_eq_true_eq, decide_eq_false_iff_not, Int.not_lt] at d
        · have hlt : i < c.length := by omega
          simp only [Int.toNat_natCast]
          refine ⟨⟨by omega, d⟩, fun x _ => (cutOut a c)[i]? = some x.1, Br.intro (fun g => ?_) fun g => ?_, ?_⟩
          all_goals try simp only [decide_eq_true_eq, decide_eq_false_iff_not, Int.not_lt] at g
          · refine ⟨⟨hc _ (mem_getD hlt), ha, by omega, by omega⟩, rfl, ?_⟩
            rw [cutOut_get a c i hlt, if_pos g]
          · refine ⟨rfl, ?_⟩
            rw [cutOut_get a c i hlt, if_neg (by omega)]
          · rintro ⟨x, ⟨⟩⟩ _ hx
            rw [take_next _ i hx, hlen]
            refine ⟨⟨by trivial, by omega⟩, ⟨by trivial, ?_⟩, rfl, ⟨i + 1, ?_, by omega, rfl⟩, ?_⟩
            · rw [List.length_take, cutOut_len]; omega
            · rw [wi ⟨by omega, by omega⟩]; omega
            · rw [wi ⟨by omega, by omega⟩]; omega
        · have : i = c.length := by omega
          subst this
          rw [List.take_of_length_le (by rw [cutOut_len]; omega)]
          exact ⟨⟨by trivial, by trivial⟩, h⟩
end Go.Lift

/- Contracts of seat r1: layer E (Takes and Cut). Own work. -/
set_option linter.unusedVariables false
namespace Go.Lift
open Go.Proofs

def AllI64 (c : List Int) : Prop := ∀ x ∈ c, I64 x
def takesR (a b : Int) (c : List Int) : List Int × Int × Unit := ((takesF a b c).1, (takesF a b c).2, ())
def cutR (a : Int) (c : List Int) : List Int × Int × Unit := ((cutF a c).1, (cutF a c).2, ())
def shortL (c : List Int) : Prop := c.length ≤ 65536
def cTakes : Con := .det [.int .i64, .int .i64, .slice (.int .i64)] [.own 2 (.int .i64), .snap (.int .i64)] (fun x => I64 x.1 ∧ I64 x.2.1 ∧ AllI64 x.2.2.1 ∧ shortL x.2.2.1) (fun x => takesR x.1 x.2.1 x.2.2.1)
def cCut : Con := .det [.int .i64, .slice (.int .i64)] [.own 2 (.int .i64), .snap (.int .i64)] (fun x => I64 x.1 ∧ AllI64 x.2.1 ∧ shortL x.2.1) (fun x => cutR x.1 x.2.1)
theorem at9 : FnAt Try.prog 9 Try.f9.ntmps Try.f9.results.toList (Try.f9.body.getD .skip) := ⟨Try.f9, Try.func9, rfl, rfl, by simp, by decide⟩
theorem at10 : FnAt Try.prog 10 Try.f10.ntmps Try.f10.results.toList (Try.f10.body.getD .skip) := ⟨Try.f10, Try.func10, rfl, rfl, by simp, by decide⟩
theorem at15 : FnAt Try.prog 15 Try.f15.ntmps Try.f15.results.toList (Try.f15.body.getD .skip) := ⟨Try.f15, Try.func15, rfl, rfl, by simp, by decide⟩
theorem at16 : FnAt Try.prog 16 Try.f16.ntmps Try.f16.results.toList (Try.f16.body.getD .skip) := ⟨Try.f16, Try.func16, rfl, rfl, by simp, by decide⟩
theorem c9 : cTakes.holds Try.prog cxD.glob 9 := by
  refine det_holds cxD_ok mixed hn9 at9 ?_
  rintro ⟨a, b, c, ⟨⟩⟩ ⟨h1, h2, h3, h4⟩
  exact (f9_eq a b c _).mpr (takes9_eval h1 h2 h3 h4 (post := fun r => r = takesR a b c) rfl)
theorem c10 : cTakes.holds Try.prog cxD.glob 10 := by
  refine det_holds cxD_ok mixed hn10 at10 ?_
  rintro ⟨a, b, c, ⟨⟩⟩ ⟨h1, h2, h3, h4⟩
  exact (f10_eq a b c _).mpr (takes10_eval h1 h2 h3 h4 (post := fun r => r = takesR a b c) rfl)
theorem c15 : cCut.holds Try.prog cxD.glob 15 := by
  refine det_holds cxD_ok mixed hn15 at15 ?_
  rintro ⟨a, c, ⟨⟩⟩ ⟨h1, h3, h4⟩
  exact (f15_eq a c _).mpr (cut15_eval h1 h3 h4 (post := fun r => r = cutR a c) rfl)
theorem c16 : cCut.holds Try.prog cxD.glob 16 := by
  refine det_holds cxD_ok mixed hn16 at16 ?_
  rintro ⟨a, c, ⟨⟩⟩ ⟨h1, h3, h4⟩
  exact (f16_eq a c _).mpr (cut16_eval h1 h3 h4 (post := fun r => r = cutR a c) rfl)

def conE (f : Nat) : Option Con := match f with
  | 9 => some cTakes
  | 10 => some cTakes
  | 11 => some cSame
  | 12 => some cPart
  | 14 => some cPart
  | 15 => some cCut
  | 16 => some cCut
  | 17 => some cSame
  | _ => none
def cxE : Cx := ⟨tab1, conE, fun _ => none⟩
theorem cxE_ok : CxOk Try.prog cxE := ⟨tab1_fits, fun f con h => by
  simp only [cxE, conE] at h
  split at h
  · cases h; exact c9
  · cases h; exact c10
  · cases h; exact c11
  · cases h; exact c12
  · cases h; exact c14
  · cases h; exact c15
  · cases h; exact c16
  · cases h; exact c17
  · cases h⟩
end Go.Lift

/- awake, both: lifted, true. Contracts layer F. Own work. -/
set_option linter.unusedVariables false
set_option linter.unusedSimpArgs false
namespace Go.Lift
open Go.Proofs
def F8 := fun (post : Bool × Unit → Prop) =>
  ∃ (h : I64 (10 : Int) ∧ I64 (5 : Int) ∧ AllI64 [(3 : Int), (4 : Int), (3 : Int)] ∧ shortL [(3 : Int), (4 : Int), (3 : Int)]),
    ∃ (h : True),
      post
        (sameL
            [part (5 : Int) (psum [(3 : Int), (4 : Int), (3 : Int)] (nat_lit 0 + (1 : Nat))) (10 : Int) -
                part (5 : Int) (psum [(3 : Int), (4 : Int), (3 : Int)] (nat_lit 0)) (10 : Int),
              part (5 : Int) (psum [(3 : Int), (4 : Int), (3 : Int)] (nat_lit 1 + (1 : Nat))) (10 : Int) -
                part (5 : Int) (psum [(3 : Int), (4 : Int), (3 : Int)] (nat_lit 1)) (10 : Int),
              part (5 : Int) (psum [(3 : Int), (4 : Int), (3 : Int)] (nat_lit 2 + (1 : Nat))) (10 : Int) -
                part (5 : Int) (psum [(3 : Int), (4 : Int), (3 : Int)] (nat_lit 2)) (10 : Int)]
            [(1 : Int), (2 : Int), (2 : Int)],
          ())
def F13 := fun (post : Bool × Unit → Prop) =>
  ∃ (h : I64 (10 : Int) ∧ AllI64 [(10 : Int), (5 : Int), (0 : Int)] ∧ shortL [(10 : Int), (5 : Int), (0 : Int)]),
    ∃ (h : I64 (7 : Int) ∧ I64 (3 : Int) ∧ I64 (2 : Int)),
      ∃ (h : I64 (4611686018427387904 : Int) ∧ I64 (4611686018427387904 : Int) ∧ I64 (4611686018427387904 : Int)),
        ∃ (h : True),
          post
            (sameL
                [if psum [(10 : Int), (5 : Int), (0 : Int)] (3 : Nat) > (10 : Int) then
                    part (10 : Int) (10 : Int) (psum [(10 : Int), (5 : Int), (0 : Int)] (3 : Nat))
                  else (10 : Int),
                  if psum [(10 : Int), (5 : Int), (0 : Int)] (3 : Nat) > (10 : Int) then
                    part (5 : Int) (10 : Int) (psum [(10 : Int), (5 : Int), (0 : Int)] (3 : Nat))
                  else (5 : Int),
                  if psum [(10 : Int), (5 : Int), (0 : Int)] (3 : Nat) > (10 : Int) then
                    part (0 : Int) (10 : Int) (psum [(10 : Int), (5 : Int), (0 : Int)] (3 : Nat))
                  else (0 : Int)]
                [(6 : Int), (3 : Int), (0 : Int)],
              ())
theorem f8_eq (post : Bool × Unit → Prop) : fnEval cxE noHn Try.f8.ntmps Try.f8.results.toList (Try.f8.body.getD .skip) [] [.snap .bool] () post = F8 post := by kernel_rfl
theorem f13_eq (post : Bool × Unit → Prop) : fnEval cxE noHn Try.f13.ntmps Try.f13.results.toList (Try.f13.body.getD .skip) [] [.snap .bool] () post = F13 post := by kernel_rfl
theorem awake8 : F8 (fun r => r = (true, ())) := by
  refine ⟨⟨by unfold I64; omega, by unfold I64; omega, by intro x hx; simp at hx; unfold I64; omega, by unfold shortL; decide⟩, trivial, ?_⟩
  exact congrArg (fun b => (b, ())) (by decide +kernel)
theorem awake13 : F13 (fun r => r = (true, ())) := by
  refine ⟨⟨by unfold I64; omega, by intro x hx; simp at hx; unfold I64; omega, by unfold shortL; decide⟩, ⟨by unfold I64; omega, by unfold I64; omega, by unfold I64; omega⟩, ⟨by unfold I64; omega, by unfold I64; omega, by unfold I64; omega⟩, trivial, ?_⟩
  exact congrArg (fun b => (b, ())) (by decide +kernel)
theorem at8 : FnAt Try.prog 8 Try.f8.ntmps Try.f8.results.toList (Try.f8.body.getD .skip) := ⟨Try.f8, Try.func8, rfl, rfl, by simp, by decide⟩
theorem at13 : FnAt Try.prog 13 Try.f13.ntmps Try.f13.results.toList (Try.f13.body.getD .skip) := ⟨Try.f13, Try.func13, rfl, rfl, by simp, by decide⟩
def cYes : Con := .det [] [.snap .bool] (fun _ => True) (fun _ => (true, ()))
theorem c8 : cYes.holds Try.prog cxE.glob 8 := by
  refine det_holds cxE_ok mixed noHn at8 ?_
  rintro ⟨⟩ _
  exact (f8_eq _).mpr awake8
theorem c13 : cYes.holds Try.prog cxE.glob 13 := by
  refine det_holds cxE_ok mixed noHn at13 ?_
  rintro ⟨⟩ _
  exact (f13_eq _).mpr awake13
def conF (f : Nat) : Option Con := match f with
  | 8 => some cYes
  | 9 => some cTakes
  | 10 => some cTakes
  | 11 => some cSame
  | 12 => some cPart
  | 13 => some cYes
  | 14 => some cPart
  | 15 => some cCut
  | 16 => some cCut
  | 17 => some cSame
  | _ => none
def cxF : Cx := ⟨tab1, conF, fun _ => none⟩
theorem cxF_ok : CxOk Try.prog cxF := ⟨tab1_fits, fun f con h => by
  simp only [cxF, conF] at h
  split at h
  · cases h; exact c8
  · cases h; exact c9
  · cases h; exact c10
  · cases h; exact c11
  · cases h; exact c12
  · cases h; exact c13
  · cases h; exact c14
  · cases h; exact c15
  · cases h; exact c16
  · cases h; exact c17
  · cases h⟩
end Go.Lift

/- The laws of seat r1: types, hints. Own work. -/
set_option linter.unusedVariables false
namespace Go.Lift
open Go.Proofs
def kThree : K := .pair (.int .i64) (.pair (.int .i64) (.int .i64))
def i0 : Value := .int .i64 0
def tThree : TD := ⟨.struct [(0, 2), (1, 2), (2, 2)], 3, 24, [i0, i0, i0], some kThree⟩
def tab2 (t : Nat) : Option TD := match t with
  | 30 => some (tSlice 32 kThree)
  | 32 => some tThree
  | t => tab1 t
def structIs (P : Program) (t : TypeId) (fs : List (Nat × TypeId)) : Bool := match P.underlying t with
  | some (.struct fields) => fields.toList.map (fun f => (f.offset, f.type)) == fs
  | _ => false
theorem structIs_fits {P : Program} {t : TypeId} {fs : List (Nat × TypeId)} (h : structIs P t fs = true) : TK.fits P t (.struct fs) := by
  unfold structIs at h
  split at h
  · rename_i fields hf; exact ⟨fields, hf, by simpa using h⟩
  · cases h
theorem tab2_fits : ∀ t d, tab2 t = some d → d.Fits Try.prog t := by
  intro t d h
  unfold tab2 at h
  split at h
  · obtain rfl := Option.some.inj h; exact fSlice (by kernel_rfl) (by kernel_rfl)
  · obtain rfl := Option.some.inj h
    refine Fits.mk' (.agg #[i0, i0, i0]) (structIs_fits (by kernel_rfl)) (by kernel_rfl) rfl rfl ?_
    rintro _ h; cases h
    exact ⟨rfl, rfl, fun _ _ => ⟨[i0], [i0, i0], rfl, rfl, [i0], [i0], rfl, rfl, rfl⟩⟩
  · exact tab1_fits t d h
def cTakesN : Con := Con.nam [.int .i64, .int .i64, .slice (.int .i64)] [.own 2 (.int .i64), .snap (.int .i64)] (fun x => I64 x.1 ∧ I64 x.2.1 ∧ AllI64 x.2.2.1 ∧ shortL x.2.2.1) (fun x => takesR x.1 x.2.1 x.2.2.1)
def cCutN : Con := Con.nam [.int .i64, .slice (.int .i64)] [.own 2 (.int .i64), .snap (.int .i64)] (fun x => I64 x.1 ∧ AllI64 x.2.1 ∧ shortL x.2.1) (fun x => cutR x.1 x.2.1)
def conG (f : Nat) : Option Con := match f with
  | 9 => some cTakesN
  | 10 => some cTakesN
  | 15 => some cCutN
  | 16 => some cCutN
  | f => conF f
def cxG : Cx := ⟨tab2, conG, fun _ => none⟩
theorem cxG_ok : CxOk Try.prog cxG := ⟨tab2_fits, fun f con h => by
  simp only [cxG, conG] at h
  split at h
  · cases h; exact nam_of_det c9
  · cases h; exact nam_of_det c10
  · cases h; exact nam_of_det c15
  · cases h; exact nam_of_det c16
  · exact cxF_ok.2 f con h⟩
def hn4 : Hn := { loops := fun k => match k with | 12 => some { ls := [(.slot 10, di), (.slot 11, di), (.slot 12, di)], os := [] } | _ => none, joins := fun k => match k with | 17 => some { ls := [], os := [] } | _ => none, binds := fun k => match k with | 14 => [13] | 17 => [10] | 18 => [11] | _ => [] }
def hn5 : Hn := { loops := fun k => match k with | 5 => some { ls := [(.slot 3, .data .bool), (.slot 4, di)], os := [] } | _ => none, joins := fun _ => none }
def hn6 : Hn := { loops := fun _ => none, joins := fun _ => none, binds := fun k => match k with | 4 => [6] | 5 => [7] | 6 => [8] | 7 => [9] | 10 => [10] | 11 => [11] | 12 => [12] | 15 => [13] | _ => [] }
def hn7 : Hn := { loops := fun k => match k with | 13 => some { ls := [(.slot 10, di), (.slot 11, di), (.slot 12, di)], os := [] } | _ => none, joins := fun _ => none, binds := fun k => match k with | 17 => [10] | 18 => [11] | _ => [] }
end Go.Lift

/- Arguments that read as data are data of the kinds: what a row needs. Own work. -/
set_option linter.unusedVariables false
set_option linter.unusedSimpArgs false
namespace Go.Lift

/-- Numbers are in their kinds' ranges. -/
def K.rng : (k : K) → k.T → Prop
  | .int k, n => (Lit.int k n).wf = true
  | .flt k, b => (Lit.float k b).wf = true
  | .pair a b, x => a.rng x.1 ∧ b.rng x.2
  | .arr n e, xs => ∀ x, List.Mem (α := e.T) x xs → e.rng x
  | .slice e, xs => (∀ x, List.Mem (α := e.T) x xs → e.rng x)
  | _, _ => True

mutual
/-- What kind a type is. -/
inductive KT (P : Program) : TypeId → K → Prop
  | int {t : TypeId} {k : IntKind} : P.underlying t = some (.int k) → KT P t (.int k)
  | flt {t : TypeId} {k : FloatKind} : P.underlying t = some (.float k) → KT P t (.flt k)
  | bool {t : TypeId} : P.underlying t = some .bool → KT P t .bool
  | slice {t te : TypeId} {e : K} : P.underlying t = some (.slice te) → P.cellsOf te = e.sz → 0 < e.sz → 1 ≤ P.bytesOf te → KT P te e → KT P t (.slice e)
  | arr {t te : TypeId} {n : Nat} {e : K} : P.underlying t = some (.array n te) → P.cellsOf te = e.sz → P.cellsOf t = n * e.sz → KT P te e → KT P t (.arr n e)
  | struct {t : TypeId} {fs : Array Field} {a b : K} : P.underlying t = some (.struct fs) → P.cellsOf t = (K.pair a b).sz → KFs P fs.toList 0 (.pair a b) → KT P t (.pair a b)
inductive KFs (P : Program) : List Field → Nat → K → Prop
  | one {f : Field} {off : Nat} {k : K} : f.offset = off → P.cellsOf f.type = k.sz → KT P f.type k → KFs P [f] off k
  | cons {f : Field} {fs : List Field} {off : Nat} {a b : K} : f.offset = off → P.cellsOf f.type = a.sz → KT P f.type a → KFs P fs (off + a.sz) b → KFs P (f :: fs) off (.pair a b)
end

theorem range_mapM {β : Type} (f : Nat → Option β) : ∀ (n : Nat) (l : List β), (List.range n).mapM f = some l → l.length = n ∧ ∀ i, i < n → ∃ b, l[i]? = some b ∧ f i = some b := by
  intro n l h
  have h2 : ∀ (is : List Nat) (l : List β), is.mapM f = some l → l.length = is.length ∧ ∀ (j i : Nat), is[j]? = some i → ∃ b, l[j]? = some b ∧ f i = some b := by
    intro is
    induction is with
    | nil => intro l h; rw [List.mapM_nil] at h; cases h; exact ⟨rfl, fun j i h => by simp at h⟩
    | cons i is ih =>
      intro l h
      rw [List.mapM_cons] at h
      cases hf : f i with
      | none => rw [hf] at h; cases h
      | some b =>
        rw [hf] at h
        cases hm : is.mapM f with
        | none => rw [hm] at h; cases h
        | some l' =>
          rw [hm] at h
          cases h
          obtain ⟨h1, h2⟩ := ih l' hm
          refine ⟨by simp [h1], fun j i' hj => ?_⟩
          cases j with
          | zero => simp at hj; subst hj; exact ⟨b, rfl, hf⟩
          | succ j => simpa using h2 j i' (by simpa using hj)
  obtain ⟨h3, h4⟩ := h2 _ _ h
  exact ⟨by simpa using h3, fun i hi => h4 i i (by simp [hi])⟩

theorem rows_of {α : Type} {R : α → List Value → Prop} {G : α → Prop} {C : Nat → Value → Prop} {s : Nat} : ∀ (n : Nat), (∀ i, i < n → ∃ x cs, R x cs ∧ G x ∧ cs.length = s ∧ ∀ j v, cs[j]? = some v → C (i * s + j) v) →
    ∃ (xs : List α) (vs : List Value), xs.length = n ∧ Rows R xs vs ∧ vs.length = n * s ∧ (∀ x, List.Mem x xs → G x) ∧ ∀ j v, vs[j]? = some v → C j v
  | 0, _ => ⟨[], [], rfl, rfl, by simp, (fun x h => nomatch h), fun j v h => by simp at h⟩
  | n + 1, h => by
    obtain ⟨xs, vs, h1, h2, h3, h4, h5⟩ := rows_of n fun i hi => h i (by omega)
    obtain ⟨x, cs, g1, g2, g3, g4⟩ := h n (by omega)
    refine ⟨xs ++ [x], vs ++ cs, by simp [h1], Rows.append h2 ⟨cs, [], by simp, g1, rfl⟩, by simp [h3, g3, Nat.add_mul], ?_, ?_⟩
    · intro y hy
      rcases List.mem_append.1 hy with hy | hy
      · exact h4 y hy
      · cases hy with
        | head => exact g2
        | tail _ hy => cases hy
    · intro j v hv
      rw [List.getElem?_append] at hv
      split at hv
      · exact h5 j v hv
      · rename_i hl
        have := g4 (j - vs.length) v hv
        rwa [show n * s + (j - vs.length) = j by omega] at this

theorem cells_at {w : World} {b : Nat} {a : Addr} {n : Nat} {cs : List Value} (h : w.cells? b a n = some cs) : cs.length = n ∧ ∀ j v, cs[j]? = some v → w.cell? (a.add j) = some v := by
  unfold World.cells? at h
  split at h
  · obtain ⟨h1, h2⟩ := range_mapM _ _ _ h
    refine ⟨h1, fun j v hv => ?_⟩
    obtain ⟨v', h3, h4⟩ := h2 j (by rw [← h1]; exact (List.getElem?_eq_some_iff.1 hv).1)
    rw [hv] at h3; cases h3; exact h4
  · cases h

theorem cell_spot {w : World} {a : Addr} {v : Value} (h : w.cell? a = some v) : a.spot = none ∧ a.block < w.heap.size := by
  unfold World.cell? at h
  split at h
  · rename_i hh
    split at h
    · cases h
    · rename_i hs
      exact ⟨by simpa using hs, lt_of_some hh⟩
  · cases h

theorem mem_weightsAll {H : Type} {P : Program} {e : TypeId} {d : DataW H} : ∀ {l : List (DataW H)}, d ∈ l → ∀ m ∈ d.weights P e, m ∈ DataW.weightsAll P e l
  | x :: l, h, m, hm => by
    simp only [DataW.weightsAll, List.mem_append]
    rcases List.mem_cons.1 h with rfl | h
    · exact .inl hm
    · exact .inr (mem_weightsAll h m hm)

section
variable {H : Type} {enc : TypeId × Value → H} {P : Program} {w : World}

def Reached (P : Program) (t : TypeId) (d : DataW H) : Prop := ∀ m ∈ d.weights P t, m ≤ reachBytes

theorem mapM_cons_some {α β : Type} {f : α → Option β} {a : α} {l : List α} {r : List β} (h : (a :: l).mapM f = some r) : ∃ b r', f a = some b ∧ l.mapM f = some r' ∧ r = b :: r' := by
  rw [List.mapM_cons] at h
  cases hf : f a with
  | none => rw [hf] at h; cases h
  | some b =>
    rw [hf] at h
    cases hm : l.mapM f with
    | none => rw [hm] at h; cases h
    | some l' => rw [hm] at h; cases h; exact ⟨b, l', rfl, rfl, rfl⟩

theorem trod_flt {held : Bool} {t : TypeId} {k : FloatKind} {fuel : Nat} {cs : List Value} {x : DataW H × List MemPlace} (ht : P.underlying t = some (.float k)) (h : DataW.trod enc P w 0 (fun _ => true) held fuel t cs = some x) :
    ∃ b, cs = [.float k b] ∧ (Lit.float k b).wf = true := by
  cases fuel with
  | zero => simp [DataW.trod] at h
  | succ n =>
    unfold DataW.trod at h
    rw [ht] at h
    split at h <;> simp_all

mutual
theorem trod_rep {held : Bool} : ∀ {t : TypeId} {k : K} (hk : KT P t k) {fuel : Nat} {cs : List Value} {x : DataW H × List MemPlace}, DataW.trod enc P w 0 (fun _ => true) held fuel t cs = some x → Reached P t x.1 →
    ∃ x : k.T, k.rep w (fun b => b < w.heap.size) x cs ∧ k.rng x
  | _, _, .int (k := k) ht, fuel, cs, x, h, hr => by
    obtain ⟨n, h1, _, h2⟩ := DataW.trod_int ht h
    exact ⟨n, h1, h2⟩
  | t, _, .flt (k := k) ht, fuel, cs, x, h, hr => by
    obtain ⟨b, h1, h2⟩ := trod_flt ht h
    exact ⟨b, h1, h2⟩
  | _, _, .bool ht, fuel, cs, x, h, hr => by
    obtain ⟨b, h1, _⟩ := DataW.trod_bool ht h
    exact ⟨b, h1, trivial⟩
  | t, _, .slice (te := te) (e := e) ht hc hp hb he, fuel, cs, x, h, hr => by
    rcases DataW.trod_slice ht h with ⟨rfl, rfl⟩ | ⟨a, len, cap, elems, rest, n, rfl, rfl, rfl, h1, h2, h3, h4, h5, h6, h7⟩
    · exact ⟨[], ⟨none, 0, rfl, Nat.le_refl _, Nat.zero_le _, .inl rfl⟩, (fun y h => nomatch h)⟩
    · have hlen : len ≤ maxN := by
        have : (elems.length + rest.length) * P.bytesOf te ≤ reachBytes := hr _ (by simp only [DataW.weights, ht]; simp)
        have h8 : elems.length * 1 ≤ (elems.length + rest.length) * P.bytesOf te := Nat.mul_le_mul (by omega) hb
        unfold reachBytes at this
        unfold maxN
        omega
      rw [hc] at h5
      obtain ⟨xs, vs, g1, g2, g3, g4, g5⟩ := rows_of (R := e.rep w (fun b => b < w.heap.size)) (G := e.rng) (C := fun j v => w.cell? (a.add j) = some v) (s := e.sz) len (fun i hi => by
        have h8 := h5 i hi
        rw [List.getElem?_eq_getElem (by omega)] at h8
        obtain ⟨cs, h9, h10⟩ := Option.bind_eq_some_iff.1 h8
        obtain ⟨hl, hat⟩ := cells_at h9
        obtain ⟨y, h11, h12⟩ := trod_rep he h10 (fun m hm => hr m (by
          simp only [DataW.weights, ht, List.mem_cons, List.mem_append]
          exact .inr (.inl (mem_weightsAll (List.mem_map.2 ⟨_, List.getElem_mem _, rfl⟩) m hm))))
        refine ⟨y, cs, h11, h12, hl, fun j v hj => ?_⟩
        have := hat j v hj
        rw [show a.add (i * e.sz + j) = (a.add (i * e.sz)).add j by
          unfold Addr.add
          by_cases e1 : i * e.sz = 0
          · rw [if_pos e1, e1]; simp
          · by_cases e2 : j = 0
            · subst e2; simp
            · rw [if_neg e1, if_neg (by omega), if_neg e2]; simp; omega]
        exact this)
      refine ⟨xs, ⟨some a, cap, by rw [← g1], by show List.length xs ≤ cap; omega, by show List.length xs ≤ maxN; omega, ?_⟩, g4⟩
      by_cases hx : len = 0
      · exact .inl (List.eq_nil_of_length_eq_zero (by omega))
      · have hv0 : 0 < vs.length := by rw [g3]; exact Nat.mul_pos (by omega) hp
        have hc0 := g5 0 _ (List.getElem?_eq_getElem hv0)
        have ha0 : a.add 0 = a := rfl
        rw [ha0] at hc0
        obtain ⟨s1, s2⟩ := cell_spot hc0
        obtain ⟨ab, ao, asp⟩ := a
        obtain rfl : asp = none := s1
        refine .inr ⟨ab, ao, vs, rfl, s2, g2, fun j v hj => ?_⟩
        have := g5 j v hj
        unfold Addr.add at this
        by_cases e : j = 0
        · subst e; exact this
        · rw [if_neg e] at this; exact this
  | t, _, .arr (te := te) (n := n) (e := e) ht hc hs he, fuel, cs, x, h, hr => by
    obtain ⟨xs, m, rfl, rfl, h1, h2, h3⟩ := DataW.trod_array ht h
    rw [hc] at h3
    rw [hs] at h1
    obtain ⟨ys, vs, g1, g2, g3, g4, g5⟩ := rows_of (R := e.rep w (fun b => b < w.heap.size)) (G := e.rng) (C := fun j v => cs[j]? = some v) (s := e.sz) n (fun i hi => by
      have h8 := h3 i hi
      rw [List.getElem?_eq_getElem (by omega)] at h8
      obtain ⟨y, h11, h12⟩ := trod_rep he h8 (fun m hm => hr m (by
        simp only [DataW.weights, ht]
        exact mem_weightsAll (List.mem_map.2 ⟨_, List.getElem_mem _, rfl⟩) m hm))
      have : (i + 1) * e.sz ≤ n * e.sz := Nat.mul_le_mul_right _ (by omega)
      rw [Nat.add_mul] at this
      refine ⟨y, _, h11, h12, by rw [List.length_take, List.length_drop]; omega, fun j v hj => ?_⟩
      rw [List.getElem?_take] at hj
      split at hj
      · rw [List.getElem?_drop] at hj; exact hj
      · cases hj)
    have : vs = cs := by
      apply List.ext_getElem (by omega)
      intro i hi1 hi2
      have := g5 i _ (List.getElem?_eq_getElem hi1)
      rw [List.getElem?_eq_getElem hi2] at this
      exact (Option.some.inj this).symm
    subst this
    exact ⟨ys, ⟨g1, g2⟩, g4⟩
  | t, _, .struct (fs := fs) (a := a) (b := b) ht hs hf, fuel, cs, x, h, hr => by
    obtain ⟨xs, m, rfl, rfl, h1, h2, h3⟩ := DataW.trod_struct ht h
    have h4 : ∀ m ∈ DataW.weightsEach P (fs.toList.map (·.type)) (xs.map (·.1)), m ≤ reachBytes := fun m hm => hr m (by simp only [DataW.weights, ht]; exact hm)
    obtain ⟨y, g1, g2⟩ := trods_rep hf (fun i f hfi => h3 i f (by simpa using hfi)) (by simpa using h2) (by rw [h1, hs]; simp) h4
    refine ⟨y, ?_, g2⟩
    rw [List.drop_zero, List.take_of_length_le (by rw [h1, hs]; exact Nat.le_refl _)] at g1
    exact g1
theorem trods_rep {held : Bool} : ∀ {fs : List Field} {off : Nat} {k : K} (hk : KFs P fs off k) {n : Nat} {cs : List Value} {ds : List (DataW H × List MemPlace)},
    (∀ (i : Nat) (f : Field), fs[i]? = some f → DataW.trod enc P w 0 (fun _ => true) held n f.type ((cs.drop f.offset).take (P.cellsOf f.type)) = ds[i]?) → ds.length = fs.length → off + k.sz ≤ cs.length →
    (∀ m ∈ DataW.weightsEach P (fs.map (·.type)) (ds.map (·.1)), m ≤ reachBytes) → ∃ x : k.T, k.rep w (fun b => b < w.heap.size) x ((cs.drop off).take k.sz) ∧ k.rng x
  | _, _, _, .one (f := f) (off := off) (k := k) ho hs hk, n, cs, ds, h, hd, hl, hr => by
    match ds, hd with
    | [d], _ =>
      have h1 := h 0 f rfl
      rw [ho, hs] at h1
      exact trod_rep hk h1 (fun m hm => hr m (by simp [DataW.weightsEach, hm]))
  | _, _, _, .cons (f := f) (fs := fs) (off := off) (a := a) (b := b) ho hs hk hks, n, cs, ds, h, hd, hl, hr => by
    match ds, hd with
    | d :: ds, hd =>
      have h1 := h 0 f rfl
      rw [ho, hs] at h1
      have hsz : (K.pair a b).sz = a.sz + b.sz := rfl
      obtain ⟨x, g1, g2⟩ := trod_rep hk h1 (fun m hm => hr m (by simp [DataW.weightsEach, hm]))
      obtain ⟨y, g3, g4⟩ := trods_rep hks (ds := ds) (fun i f hf => h (i + 1) f (by simpa using hf)) (by simpa using hd) (by omega) (fun m hm => hr m (by simp only [List.map_cons, DataW.weightsEach, List.mem_append]; exact .inr hm))
      refine ⟨(x, y), ⟨_, _, ?_, g1, g3⟩, g2, g4⟩
      rw [hsz, List.take_add, List.drop_drop]
end
end
end Go.Lift

/- A law's row from its contract. Own work. -/
set_option linter.unusedVariables false
set_option linter.unusedSimpArgs false
namespace Go.Lift
open Go.ChangeShapes Go.WideShapes Go.RowKit

def KS.rng : (ks : List K) → KS ks → Prop
  | [], _ => True
  | k :: ks, x => k.rng x.1 ∧ KS.rng ks x.2

section
variable {H : Type} {enc : TypeId × Value → H} {P : Program}

theorem okWide_cells {W : World} {base : Nat} {t : TypeId} {k : K} {v : Value} (hk : KT P t k) (h : Value.okWide P W .any base t v) : if k.agg then ∃ vs, v = .agg vs else v.cells.toList = [v] := by
  cases hk with
  | int ht => simp only [K.agg]; obtain ⟨n, rfl⟩ := okWide_int ht h; rfl
  | flt ht =>
    simp only [K.agg]
    simp only [Value.okWide, ht, Cell.okWide] at h
    cases v <;> first | rfl | (simp [Cell.ok, ht] at h)
  | bool ht => simp only [K.agg]; obtain ⟨n, rfl⟩ := okWide_bool ht h; rfl
  | slice ht _ _ _ _ =>
    simp only [K.agg]
    simp only [Value.okWide, ht, Cell.okWide] at h
    cases v <;> first | rfl | (simp [Cell.ok, ht] at h)
  | arr ht _ _ _ =>
    simp only [K.agg, if_true]
    simp only [Value.okWide, ht] at h
    obtain ⟨cs, rfl, _⟩ := h
    exact ⟨cs, rfl⟩
  | struct ht _ _ =>
    simp only [K.agg, if_true]
    simp only [Value.okWide, ht] at h
    obtain ⟨cs, rfl, _⟩ := h
    exact ⟨cs, rfl⟩

theorem args_rep {W : World} {base : Nat} : ∀ {ts : List TypeId} {ks : List K}, All2 (KT P) ts ks → ∀ {vs : List Value} {ds : List (DataW H)} {ps : List MemPlace}, DataW.TrodAll enc P W 0 (fun _ => true) true ts vs ds ps →
    (∀ (j : Nat) t v, ts[j]? = some t → vs[j]? = some v → Value.okWide P W .any base t v) → (∀ m ∈ DataW.weightsEach P ts ds, m ≤ reachBytes) →
    ∃ x : KS ks, ArgsRep W (fun b => b < W.heap.size) ks x vs ∧ KS.rng ks x ∧ ds.length = ks.length := by
  intro ts ks hk
  induction hk with
  | nil =>
    intro vs ds ps h _ _
    cases vs with
    | nil => cases ds with
      | nil => exact ⟨(), rfl, trivial, rfl⟩
      | cons d ds => exact h.elim
    | cons v vs => cases ds <;> exact h.elim
  | cons hk1 hks ih =>
    intro vs ds ps h hv hr
    cases vs with
    | nil => cases ds <;> exact h.elim
    | cons v vs => cases ds with
      | nil => exact h.elim
      | cons d ds =>
        obtain ⟨p, q, ⟨fuel, h1⟩, h2, _⟩ := h
        obtain ⟨x, g1, g2⟩ := trod_rep hk1 h1 (fun m hm => hr m (by simp only [DataW.weightsEach, List.mem_append]; exact .inl hm))
        obtain ⟨y, g3, g4, g5⟩ := ih h2 (fun j t v ht hv' => hv (j + 1) t v (by simpa using ht) (by simpa using hv')) (fun m hm => hr m (by simp only [DataW.weightsEach, List.mem_append]; exact .inr hm))
        have hc := okWide_cells hk1 (hv 0 _ v rfl rfl)
        refine ⟨(x, y), ⟨v, vs, rfl, ?_, g3⟩, ⟨g2, g4⟩, by simp [g5]⟩
        unfold KRep
        split
        · rename_i ha
          rw [if_pos ha] at hc
          obtain ⟨cs, rfl⟩ := hc
          exact ⟨cs, rfl, g1⟩
        · rename_i ha
          rw [if_neg ha] at hc
          rw [hc] at g1; exact g1

theorem args_keep (hl : laidOutB P = true) {W W' : World} (hg : Grows W W') {sp : Nat → Bool} : ∀ {ts : List TypeId}, (∀ t ∈ ts, P.readableRec t = true ∧ t < P.types.size) → ∀ {vs : List Value} {ds : List (DataW H)} {ps : List MemPlace},
    DataW.TrodAll enc P W 0 (fun _ => true) true ts vs ds ps → (∀ p ∈ ps, p.block < W.heap.size) → (∀ p ∈ ps, sp p.block = true) → DataW.TrodAll enc P W' 0 sp true ts vs ds ps := by
  intro ts
  induction ts with
  | nil => intro _ vs ds ps h _ _; cases vs <;> cases ds <;> first | exact h | exact h.elim
  | cons t ts ih =>
    intro ht vs ds ps h hlt hs
    cases vs with
    | nil => cases ds <;> exact h.elim
    | cons v vs => cases ds with
      | nil => exact h.elim
      | cons d ds =>
        obtain ⟨p, q, h1, h2, rfl⟩ := h
        have hb : Below W.heap.size W W' := ⟨hg.os, hg.tape, hg.output, hg.size, hg.keep⟩
        exact ⟨p, q, WideElems.Trod_stays hl (ht t List.mem_cons_self).1 (ht t List.mem_cons_self).2 h1 (fun x hx => hb.same (hlt x (List.mem_append_left _ hx))) (fun x hx => hs x (List.mem_append_left _ hx)),
          ih (fun t h => ht t (List.mem_cons_of_mem _ h)) h2 (fun x hx => hlt x (List.mem_append_right _ hx)) (fun x hx => hs x (List.mem_append_right _ hx)), rfl⟩

/-- What a row of a law asks of its specification: true, and what came in. -/
def LawSpec (s : ChangeSpec) (n : Nat) : Prop := s.vars = [] ∧ ∀ (H : Type) (ds : List (DataW H)), ds.length = n → s.fn H ds = { results := [.lit (.bool true)], args := ds }

theorem law_handed {C : Checked} {os : Os} {f : FuncId} {fn : Func} {s : ChangeSpec} {ks : List K} {pre : KS ks → Prop} {tb : TypeId} (own : ownKnob C.prog.godebug = none) (started : os.Started) (noInit : C.prog.inits.idxOf? f = none)
    (hfn : C.prog.funcs[f]? = some fn) (hbody : fn.body.isSome = true) (hname : (fn.name == "runtime.NumGoroutine") = false)
    (witness : ∃ (w : World) (tape : Tape) (i : Input), w.os = os ∧ (w.forCall tape i).Shaped C.prog ∧ i.vars = [] ∧ Input.okWide C.prog (w.forCall tape i) .any w.heap.size f i ∧
      s.pre6 enc C.prog fn [] false (w.forCall tape i).memory i.args ∧ ({} : Assume).holds C.prog (lone (Frame.enter C.prog f i.args .normal) [] (w.forCall tape i)))
    (hl : laidOutB C.prog = true) (hks : All2 (KT C.prog) fn.params.toList ks) (hread : ∀ t ∈ fn.params.toList, C.prog.readableRec t = true ∧ t < C.prog.types.size)
    (hres : fn.resultTypes = #[tb]) (htb : C.prog.underlying tb = some .bool) (hs : LawSpec s ks.length)
    (hcon : (Con.det ks [.snap .bool] pre (fun _ => (true, ()))).holds C.prog (fun _ => none) f) (hpre : ∀ x, KS.rng ks x → KS.wf ks x → pre x) :
    ReturnsInHanded {} C os f .any (s.pre6 enc C.prog fn [] false) (s.post enc C.prog fn false true false false) := by
  refine returnsInHanded_of_calls own started noInit witness ?_
  intro w tape i _ _ _ hok hp hholds
  obtain ⟨_, _, _, fn', hfn', _, _, _, _, hval⟩ := hok
  have e : fn' = fn := Option.some.inj (hfn'.symm.trans hfn)
  subst e
  obtain ⟨⟨ds, gs, before, hw, hc⟩, hz⟩ := hp
  have hW := DataW.Whole.of_heap (w' := w.forCall tape i) (by rfl) hw
  have hwt := hz.weights hw
  generalize w.forCall tape i = W at *
  have hlt : ∀ p ∈ before, p.block < W.heap.size := fun p hp => hW.lt p hp
  obtain ⟨p, q, hA, hV, rfl, hfz, hnd⟩ := id hW
  rw [hs.1] at hV
  obtain ⟨rfl, rfl⟩ := trodVars_none hV
  have hvt : (OpenSpec.ofChange s).bare.plain.varTypes C.prog = [] := by
    show (s.plain.varTypes C.prog) = []
    unfold DataSpec.varTypes
    show s.vars.filterMap _ = []
    rw [hs.1]; rfl
  simp only [List.append_nil] at hwt hW hlt
  rw [hvt, List.append_nil, List.all_eq_true] at hwt
  obtain ⟨x, h1, h2, h3⟩ := args_rep hks hA (fun j t v ht hv => hval j t v (by simpa using ht) (by simpa using hv)) (fun m hm => by simpa using hwt m hm)
  have hspec := hcon W x i.args.toList h1 (fun g k y hg => by cases hg) (hpre x h2 h1.wf)
  obtain ⟨code, hcode⟩ := Option.isSome_iff_exists.1 hbody
  have hcalls : Calls C.prog f i.args W fun e w' => ∃ v, e = .returned v ∧ Grows W w' ∧ ResRep W w' [.snap .bool] (true, ()) v := by
    rcases hspec with ⟨v, w', g1, _⟩ | ⟨_, g2⟩
    · have := callFunc_run hfn hcode hname i.args.toList.toArray W
      rw [this] at g1; cases g1
    · simpa using g2
  refine hcalls.mono fun e W' ⟨v, he, hg, hr⟩ => ?_
  subst he
  refine ChangeSpec.post_blind ?_
  have hv : v = .bool true := by
    obtain ⟨vs, obs, hv, _, v0, vr, o1, o2, rfl, _, ⟨_, h5⟩, rfl, _⟩ := hr
    rw [hv]
    exact (List.cons.inj h5).1
  subst hv
  have hds := hs.2 H ds h3
  have hb : Below W.heap.size W W' := ⟨hg.os, hg.tape, hg.output, hg.size, hg.keep⟩
  refine ⟨ds, [], p, [], p, [], hW, ?_, ?_, ?_, World.keptBut_mono (fun p hp => ⟨hp, .inr (.inl hp)⟩) (hb.frame (· ∈ p)), fun h => by cases h⟩
  · rw [List.append_nil, hds, hres]
    exact trodAll_mk1 (RowKit.shut_bool htb true)
  · rw [List.append_nil, hds]
    exact args_keep hl hg hread hA hlt (fun x hx => by simpa using hlt x hx)
  · rw [List.append_nil, hds, hs.1]
    rfl
end
end Go.Lift

/- The laws of seat r1: lifted texts. Own work. -/
set_option linter.unusedVariables false
set_option linter.unusedSimpArgs false
namespace Go.Lift
open Go.Proofs
def F3 := fun (a b : Int) (c : List Int) (post : Bool × Unit → Prop) =>
  ∃ (h : True),
    Br (decide ((↑c.length : Int) > (65536 : Int))) (post (Bool.true, ()))
      (∃ (h : (0 : Nat) = (0 : Nat) ∧ ((0 : Nat) + c.length) * (8 : Nat) ≤ (140737488355328 : Nat)),
        ∃ (h :
          I64 a ∧
            I64 b ∧
              AllI64 (List.take ((0 : Nat) + c.length) (List.drop (0 : Nat) ([] ++ c))) ∧
                shortL (List.take ((0 : Nat) + c.length) (List.drop (0 : Nat) ([] ++ c)))),
          ∀ (a_1 : List Int × Int × Unit),
            a_1 = takesR a b (List.take ((0 : Nat) + c.length) (List.drop (0 : Nat) ([] ++ c))) →
              ∃ (h : I64 a ∧ I64 b ∧ AllI64 c ∧ shortL c),
                ∀ (a_2 : List Int × Int × Unit),
                  a_2 = takesR a b c →
                    Br (a_1.snd.fst == a_2.snd.fst)
                      (∃ (h : True), post (sameL (List.take a_1.fst.length (List.drop (0 : Nat) a_1.fst)) (List.take a_2.fst.length (List.drop (0 : Nat) a_2.fst)), ()))
                      (post (Bool.false, ())))
def F4 := fun (a b : Int) (c : List Int) (post : Bool × Unit → Prop) =>
  ∃ (h : True),
    Br (decide ((↑c.length : Int) > (65536 : Int))) (post (Bool.true, ()))
      (∃ (h : (0 : Nat) = (0 : Nat) ∧ ((0 : Nat) + c.length) * (8 : Nat) ≤ (140737488355328 : Nat)),
        ∃ (h :
          I64 a ∧
            I64 b ∧
              AllI64 (List.take ((0 : Nat) + c.length) (List.drop (0 : Nat) ([] ++ c))) ∧
                shortL (List.take ((0 : Nat) + c.length) (List.drop (0 : Nat) ([] ++ c)))),
          ∀ (a_1 : List Int × Int × Unit),
            a_1 = takesR a b (List.take ((0 : Nat) + c.length) (List.drop (0 : Nat) ([] ++ c))) →
              Br (a_1.snd.fst != (0 : Int)) (Br (a_1.snd.fst == (1 : Int)) (post ((↑a_1.fst.length : Int) == (0 : Int), ())) (post (Bool.false, ())))
                (Br ((↑a_1.fst.length : Int) != (↑c.length : Int)) (post (Bool.false, ()))
                  (HIs
                      [HObj.dead, HObj.row Md.rw (2 : Nat) (K.int IntKind.i64) ([] ++ c),
                        HObj.row Md.rw (2 : Nat) (K.int IntKind.i64) a_1.fst]
                      [HObj.dead, HObj.row Md.rw (2 : Nat) (K.int IntKind.i64) ([] ++ c),
                        HObj.row Md.rw (2 : Nat) (K.int IntKind.i64) a_1.fst] ∧
                    ∃ (I : Int × Int × Int × Unit → Unit → Prop),
                      ∃ (μ : Int × Int × Int × Unit → Unit → Nat),
                        I ((0 : Int), (0 : Int), (0 : Int), ()) () ∧
                          ∀ (x : Int × Int × Int × Unit) (y : Unit),
                            I x y →
                              Br (decide (x.snd.snd.fst < (↑c.length : Int)))
                                (∃ (h : (0 : Int) ≤ x.snd.snd.fst ∧ x.snd.snd.fst < (↑c.length : Int)),
                                  ∃ (h : I64 b ∧ I64 (c.getD x.snd.snd.fst.toNat (0 : Int)) ∧ I64 a),
                                    ∀ (m : Int),
                                      m = part b (c.getD x.snd.snd.fst.toNat (0 : Int)) a →
                                        ∃ (post_1 : Unit → Unit → Prop),
                                          (∃ (h : (0 : Int) ≤ x.snd.snd.fst ∧ x.snd.snd.fst < (↑a_1.fst.length : Int)),
                                              Br (decide (a_1.fst.getD ((0 : Nat) + x.snd.snd.fst.toNat) (0 : Int) < (0 : Int))) (post (Bool.false, ()))
                                                (∃ (h : (0 : Int) ≤ x.snd.snd.fst ∧ x.snd.snd.fst < (↑a_1.fst.length : Int)),
                                                  Br (a_1.fst.getD ((0 : Nat) + x.snd.snd.fst.toNat) (0 : Int) != m)
                                                    (∃ (h : (0 : Int) ≤ x.snd.snd.fst ∧ x.snd.snd.fst < (↑a_1.fst.length : Int)),
                                                      Br (a_1.fst.getD ((0 : Nat) + x.snd.snd.fst.toNat) (0 : Int) != IntKind.i64.wrap (m + (1 : Int)))
                                                        (post (Bool.false, ()))
                                                        (∃ (h : (0 : Int) ≤ x.snd.snd.fst ∧ x.snd.snd.fst < (↑c.length : Int)),
                                                          Br (c.getD x.snd.snd.fst.toNat (0 : Int) == (0 : Int))
                                                            (∃ (h : (0 : Int) ≤ x.snd.snd.fst ∧ x.snd.snd.fst < (↑a_1.fst.length : Int)),
                                                              Br (a_1.fst.getD ((0 : Nat) + x.snd.snd.fst.toNat) (0 : Int) != (0 : Int)) (post (Bool.false, ()))
                                                                (HIs
                                                                    [HObj.dead, HObj.row Md.rw (2 : Nat) (K.int IntKind.i64) ([] ++ c),
                                                                      HObj.row Md.rw (2 : Nat) (K.int IntKind.i64) a_1.fst]
                                                                    [HObj.dead, HObj.row Md.rw (2 : Nat) (K.int IntKind.i64) ([] ++ c),
                                                                      HObj.row Md.rw (2 : Nat) (K.int IntKind.i64) a_1.fst] ∧
                                                                  post_1 () ()))
                                                            (HIs
                                                                [HObj.dead, HObj.row Md.rw (2 : Nat) (K.int IntKind.i64) ([] ++ c),
                                                                  HObj.row Md.rw (2 : Nat) (K.int IntKind.i64) a_1.fst]
                                                                [HObj.dead, HObj.row Md.rw (2 : Nat) (K.int IntKind.i64) ([] ++ c),
                                                                  HObj.row Md.rw (2 : Nat) (K.int IntKind.i64) a_1.fst] ∧
                                                              post_1 () ())))
                                                    (∃ (h : (0 : Int) ≤ x.snd.snd.fst ∧ x.snd.snd.fst < (↑c.length : Int)),
                                                      Br (c.getD x.snd.snd.fst.toNat (0 : Int) == (0 : Int))
                                                        (∃ (h : (0 : Int) ≤ x.snd.snd.fst ∧ x.snd.snd.fst < (↑a_1.fst.length : Int)),
                                                          Br (a_1.fst.getD ((0 : Nat) + x.snd.snd.fst.toNat) (0 : Int) != (0 : Int)) (post (Bool.false, ()))
                                                            (HIs
                                                                [HObj.dead, HObj.row Md.rw (2 : Nat) (K.int IntKind.i64) ([] ++ c),
                                                                  HObj.row Md.rw (2 : Nat) (K.int IntKind.i64) a_1.fst]
                                                                [HObj.dead, HObj.row Md.rw (2 : Nat) (K.int IntKind.i64) ([] ++ c),
                                                                  HObj.row Md.rw (2 : Nat) (K.int IntKind.i64) a_1.fst] ∧
                                                              post_1 () ()))
                                                        (HIs
                                                            [HObj.dead, HObj.row Md.rw (2 : Nat) (K.int IntKind.i64) ([] ++ c),
                                                              HObj.row Md.rw (2 : Nat) (K.int IntKind.i64) a_1.fst]
                                                            [HObj.dead, HObj.row Md.rw (2 : Nat) (K.int IntKind.i64) ([] ++ c),
                                                              HObj.row Md.rw (2 : Nat) (K.int IntKind.i64) a_1.fst] ∧
                                                          post_1 () ())))) ∧
                                            ∀ (x_3 y_1 : Unit),
                                              post_1 x_3 y_1 →
                                                ∃ (h : (0 : Int) ≤ x.snd.snd.fst ∧ x.snd.snd.fst < (↑c.length : Int)),
                                                  ∀ (m : Int),
                                                    m = IntKind.i64.wrap (x.fst + c.getD x.snd.snd.fst.toNat (0 : Int)) →
                                                      ∃ (h : (0 : Int) ≤ x.snd.snd.fst ∧ x.snd.snd.fst < (↑a_1.fst.length : Int)),
                                                        ∀ (m_1 : Int),
                                                          m_1 = IntKind.i64.wrap (x.snd.fst + a_1.fst.getD ((0 : Nat) + x.snd.snd.fst.toNat) (0 : Int)) →
                                                            Br (b == a)
                                                              (∃ (h : (0 : Int) ≤ x.snd.snd.fst ∧ x.snd.snd.fst < (↑a_1.fst.length : Int)),
                                                                ∃ (h : (0 : Int) ≤ x.snd.snd.fst ∧ x.snd.snd.fst < (↑c.length : Int)),
                                                                  Br (a_1.fst.getD ((0 : Nat) + x.snd.snd.fst.toNat) (0 : Int) != c.getD x.snd.snd.fst.toNat (0 : Int))
                                                                    (post (Bool.false, ()))
                                                                    (HIs
                                                                        [HObj.dead, HObj.row Md.rw (2 : Nat) (K.int IntKind.i64) ([] ++ c),
                                                                          HObj.row Md.rw (2 : Nat) (K.int IntKind.i64) a_1.fst]
                                                                        [HObj.dead, HObj.row Md.rw (2 : Nat) (K.int IntKind.i64) ([] ++ c),
                                                                          HObj.row Md.rw (2 : Nat) (K.int IntKind.i64) a_1.fst] ∧
                                                                      I (m, m_1, IntKind.i64.wrap (x.snd.snd.fst + (1 : Int)), ()) () ∧
                                                                        μ (m, m_1, IntKind.i64.wrap (x.snd.snd.fst + (1 : Int)), ()) () < μ x y))
                                                              (HIs
                                                                  [HObj.dead, HObj.row Md.rw (2 : Nat) (K.int IntKind.i64) ([] ++ c),
                                                                    HObj.row Md.rw (2 : Nat) (K.int IntKind.i64) a_1.fst]
                                                                  [HObj.dead, HObj.row Md.rw (2 : Nat) (K.int IntKind.i64) ([] ++ c),
                                                                    HObj.row Md.rw (2 : Nat) (K.int IntKind.i64) a_1.fst] ∧
                                                                I (m, m_1, IntKind.i64.wrap (x.snd.snd.fst + (1 : Int)), ()) () ∧
                                                                  μ (m, m_1, IntKind.i64.wrap (x.snd.snd.fst + (1 : Int)), ()) () < μ x y))
                                (∃ (h : I64 b ∧ I64 x.fst ∧ I64 a),
                                  Br (x.snd.fst == part b x.fst a)
                                    (Br (decide (x.snd.fst ≤ b))
                                      (Br (x.fst != a) (post (Bool.true, ())) (Br (a == (0 : Int)) (post (Bool.true, ())) (post (x.snd.fst == b, ()))))
                                      (post (Bool.false, ())))
                                    (post (Bool.false, ()))))))
def F5 := fun (c : List (Int × Int × Int)) (post : Bool × Unit → Prop) =>
  ∃ (h : True),
    Br (decide ((↑c.length : Int) > (65536 : Int))) (post (Bool.true, ()))
      (HIs [] [] ∧
        ∃ (I : Bool × Int × Unit → Unit → Prop),
          ∃ (μ : Bool × Int × Unit → Unit → Nat),
            I (Bool.true, (0 : Int), ()) () ∧
              ∀ (x : Bool × Int × Unit) (y : Unit),
                I x y →
                  Br (decide (x.snd.fst < (↑c.length : Int)))
                    (Br x.fst
                      (∃ (h : (0 : Int) ≤ x.snd.fst ∧ x.snd.fst < (↑c.length : Int)),
                        ∃ (h :
                          I64 (c.getD x.snd.fst.toNat kThree.dflt).fst ∧
                            I64 (c.getD x.snd.fst.toNat kThree.dflt).snd.fst ∧ I64 (c.getD x.snd.fst.toNat kThree.dflt).snd.snd),
                          ∃ (h :
                            I64 (c.getD x.snd.fst.toNat kThree.dflt).fst ∧
                              I64 (c.getD x.snd.fst.toNat kThree.dflt).snd.fst ∧ I64 (c.getD x.snd.fst.toNat kThree.dflt).snd.snd),
                            HIs [] [] ∧
                              I
                                  (part (c.getD x.snd.fst.toNat kThree.dflt).fst (c.getD x.snd.fst.toNat kThree.dflt).snd.fst
                                        (c.getD x.snd.fst.toNat kThree.dflt).snd.snd ==
                                      part (c.getD x.snd.fst.toNat kThree.dflt).fst (c.getD x.snd.fst.toNat kThree.dflt).snd.fst
                                        (c.getD x.snd.fst.toNat kThree.dflt).snd.snd,
                                    IntKind.i64.wrap (x.snd.fst + (1 : Int)), ())
                                  () ∧
                                μ
                                    (part (c.getD x.snd.fst.toNat kThree.dflt).fst (c.getD x.snd.fst.toNat kThree.dflt).snd.fst
                                          (c.getD x.snd.fst.toNat kThree.dflt).snd.snd ==
                                        part (c.getD x.snd.fst.toNat kThree.dflt).fst (c.getD x.snd.fst.toNat kThree.dflt).snd.fst
                                          (c.getD x.snd.fst.toNat kThree.dflt).snd.snd,
                                      IntKind.i64.wrap (x.snd.fst + (1 : Int)), ())
                                    () <
                                  μ x y)
                      (post (x.fst, ())))
                    (post (x.fst, ())))
def F6 := fun (a : Int × Int × Int) (b : Int) (post : Bool × Unit → Prop) =>
  ∃ (h : True),
    ∀ (m : Int),
      m = Go.bits Go.BinOp.and IntKind.i64 a.fst (2147483647 : Int) →
        ∀ (m_1 : Int),
          m_1 = Go.bits Go.BinOp.and IntKind.i64 a.snd.fst (2147483647 : Int) →
            ∀ (m_2 : Int),
              m_2 = Go.bits Go.BinOp.and IntKind.i64 a.snd.snd (2147483647 : Int) →
                ∀ (m_3 : Int),
                  m_3 = Go.bits Go.BinOp.and IntKind.i64 b (2147483647 : Int) →
                    Br (m_2 == (0 : Int)) (∃ (h : I64 m ∧ I64 m_1 ∧ I64 m_2), post (part m m_1 m_2 == (0 : Int), ()))
                      (∃ (h : I64 m ∧ I64 m_1 ∧ I64 m_2),
                        ∀ (m_4 : Int),
                          m_4 = part m m_1 m_2 →
                            ∃ (h : I64 m ∧ I64 m_3 ∧ I64 m_2),
                              ∀ (m_5 : Int),
                                m_5 = part m m_3 m_2 →
                                  ∃ (h : I64 m ∧ I64 (IntKind.i64.wrap (m_1 + m_3)) ∧ I64 m_2),
                                    ∀ (m_6 : Int),
                                      m_6 = part m (IntKind.i64.wrap (m_1 + m_3)) m_2 →
                                        ∃ (h : m_2 ≠ (0 : Int)),
                                          Br (m_4 != IntKind.i64.wrap ((IntKind.i64.wrap (m * m_1)).tdiv m_2)) (post (Bool.false, ()))
                                            (∃ (h : I64 m_1 ∧ I64 m ∧ I64 m_2),
                                              Br (part m_1 m m_2 != m_4) (post (Bool.false, ()))
                                                (Br (m_6 != IntKind.i64.wrap (m_4 + m_5))
                                                  (Br (m_6 != IntKind.i64.wrap (IntKind.i64.wrap (m_4 + m_5) + (1 : Int))) (post (Bool.false, ()))
                                                    (∃ (h : I64 m ∧ I64 m_2 ∧ I64 m_2),
                                                      Br (part m m_2 m_2 != m) (post (Bool.false, ()))
                                                        (∀ (m : Int),
                                                          m = Go.bits Go.BinOp.and IntKind.i64 a.fst (9223372036854775807 : Int) →
                                                            ∃ (h : I64 m ∧ I64 m_2 ∧ I64 m_2),
                                                              Br (part m m_2 m_2 == m)
                                                                (∃ (h : I64 m_2 ∧ I64 m ∧ I64 m_2),
                                                                  Br (part m_2 m m_2 == m)
                                                                    (∃ (h : I64 m ∧ I64 (0 : Int) ∧ I64 m_2),
                                                                      post (part m (0 : Int) m_2 == (0 : Int), ()))
                                                                    (post (Bool.false, ())))
                                                                (post (Bool.false, ())))))
                                                  (∃ (h : I64 m ∧ I64 m_2 ∧ I64 m_2),
                                                    Br (part m m_2 m_2 != m) (post (Bool.false, ()))
                                                      (∀ (m : Int),
                                                        m = Go.bits Go.BinOp.and IntKind.i64 a.fst (9223372036854775807 : Int) →
                                                          ∃ (h : I64 m ∧ I64 m_2 ∧ I64 m_2),
                                                            Br (part m m_2 m_2 == m)
                                                              (∃ (h : I64 m_2 ∧ I64 m ∧ I64 m_2),
                                                                Br (part m_2 m m_2 == m)
                                                                  (∃ (h : I64 m ∧ I64 (0 : Int) ∧ I64 m_2),
                                                                    post (part m (0 : Int) m_2 == (0 : Int), ()))
                                                                  (post (Bool.false, ())))
                                                              (post (Bool.false, ())))))))
def F7 := fun (a : Int) (c : List Int) (post : Bool × Unit → Prop) =>
  ∃ (h : True),
    Br (decide ((↑c.length : Int) > (65536 : Int))) (post (Bool.true, ()))
      (∃ (h : (0 : Nat) = (0 : Nat) ∧ ((0 : Nat) + c.length) * (8 : Nat) ≤ (140737488355328 : Nat)),
        ∃ (h :
          I64 a ∧
            AllI64 (List.take ((0 : Nat) + c.length) (List.drop (0 : Nat) ([] ++ c))) ∧ shortL (List.take ((0 : Nat) + c.length) (List.drop (0 : Nat) ([] ++ c)))),
          ∀ (a_1 : List Int × Int × Unit),
            a_1 = cutR a (List.take ((0 : Nat) + c.length) (List.drop (0 : Nat) ([] ++ c))) →
              ∃ (h : I64 a ∧ AllI64 c ∧ shortL c),
                ∀ (a_2 : List Int × Int × Unit),
                  a_2 = cutR a c →
                    Br (a_1.snd.fst != a_2.snd.fst) (post (Bool.false, ()))
                      (∃ (h : True),
                        Br (!sameL (List.take a_1.fst.length (List.drop (0 : Nat) a_1.fst)) (List.take a_2.fst.length (List.drop (0 : Nat) a_2.fst)))
                          (post (Bool.false, ()))
                          (Br (a_1.snd.fst != (0 : Int)) (post (Bool.true, ()))
                            (HIs
                                [HObj.dead, HObj.row Md.rw (2 : Nat) (K.int IntKind.i64) ([] ++ c),
                                  HObj.row Md.rw (2 : Nat) (K.int IntKind.i64) a_1.fst,
                                  HObj.row Md.rw (2 : Nat) (K.int IntKind.i64) a_2.fst]
                                [HObj.dead, HObj.row Md.rw (2 : Nat) (K.int IntKind.i64) ([] ++ c),
                                  HObj.row Md.rw (2 : Nat) (K.int IntKind.i64) a_1.fst,
                                  HObj.row Md.rw (2 : Nat) (K.int IntKind.i64) a_2.fst] ∧
                              ∃ (I : Int × Int × Int × Unit → Unit → Prop),
                                ∃ (μ : Int × Int × Int × Unit → Unit → Nat),
                                  I ((0 : Int), (0 : Int), (0 : Int), ()) () ∧
                                    ∀ (x : Int × Int × Int × Unit) (y : Unit),
                                      I x y →
                                        Br (decide (x.snd.snd.fst < (↑c.length : Int)))
                                          (∃ (h : (0 : Int) ≤ x.snd.snd.fst ∧ x.snd.snd.fst < (↑a_1.fst.length : Int)),
                                            Br (decide (a_1.fst.getD ((0 : Nat) + x.snd.snd.fst.toNat) (0 : Int) < (0 : Int))) (post (Bool.false, ()))
                                              (∃ (h : (0 : Int) ≤ x.snd.snd.fst ∧ x.snd.snd.fst < (↑a_1.fst.length : Int)),
                                                ∃ (h : (0 : Int) ≤ x.snd.snd.fst ∧ x.snd.snd.fst < (↑c.length : Int)),
                                                  Br (decide (a_1.fst.getD ((0 : Nat) + x.snd.snd.fst.toNat) (0 : Int) > c.getD x.snd.snd.fst.toNat (0 : Int)))
                                                    (post (Bool.false, ()))
                                                    (∃ (h : (0 : Int) ≤ x.snd.snd.fst ∧ x.snd.snd.fst < (↑a_1.fst.length : Int)),
                                                      ∀ (m : Int),
                                                        m = IntKind.i64.wrap (x.fst + a_1.fst.getD ((0 : Nat) + x.snd.snd.fst.toNat) (0 : Int)) →
                                                          ∃ (h : (0 : Int) ≤ x.snd.snd.fst ∧ x.snd.snd.fst < (↑c.length : Int)),
                                                            ∀ (m_1 : Int),
                                                              m_1 = IntKind.i64.wrap (x.snd.fst + c.getD x.snd.snd.fst.toNat (0 : Int)) →
                                                                HIs
                                                                    [HObj.dead, HObj.row Md.rw (2 : Nat) (K.int IntKind.i64) ([] ++ c),
                                                                      HObj.row Md.rw (2 : Nat) (K.int IntKind.i64) a_1.fst,
                                                                      HObj.row Md.rw (2 : Nat) (K.int IntKind.i64) a_2.fst]
                                                                    [HObj.dead, HObj.row Md.rw (2 : Nat) (K.int IntKind.i64) ([] ++ c),
                                                                      HObj.row Md.rw (2 : Nat) (K.int IntKind.i64) a_1.fst,
                                                                      HObj.row Md.rw (2 : Nat) (K.int IntKind.i64) a_2.fst] ∧
                                                                  I (m, m_1, IntKind.i64.wrap (x.snd.snd.fst + (1 : Int)), ()) () ∧
                                                                    μ (m, m_1, IntKind.i64.wrap (x.snd.snd.fst + (1 : Int)), ()) () < μ x y)))
                                          (Br (decide (x.snd.fst ≤ a)) (post (x.fst == x.snd.fst, ()))
                                            (Br (decide (x.fst ≤ a)) (post (decide (x.fst > IntKind.i64.wrap (a - (↑c.length : Int))), ()))
                                              (post (Bool.false, ()))))))))
theorem f3_eq (a b : Int) (c : List Int) (post : Bool × Unit → Prop) : fnEval cxG noHn Try.f3.ntmps Try.f3.results.toList (Try.f3.body.getD .skip) [.int .i64, .int .i64, .slice (.int .i64)] [.snap .bool] (a, b, c, ()) post = F3 a b c post := by kernel_rfl
theorem f4_eq (a b : Int) (c : List Int) (post : Bool × Unit → Prop) : fnEval cxG hn4 Try.f4.ntmps Try.f4.results.toList (Try.f4.body.getD .skip) [.int .i64, .int .i64, .slice (.int .i64)] [.snap .bool] (a, b, c, ()) post = F4 a b c post := by kernel_rfl
theorem f5_eq (c : List (Int × Int × Int)) (post : Bool × Unit → Prop) : fnEval cxG hn5 Try.f5.ntmps Try.f5.results.toList (Try.f5.body.getD .skip) [.slice kThree] [.snap .bool] (c, ()) post = F5 c post := by kernel_rfl
theorem f6_eq (a : Int × Int × Int) (b : Int) (post : Bool × Unit → Prop) : fnEval cxG hn6 Try.f6.ntmps Try.f6.results.toList (Try.f6.body.getD .skip) [kThree, .int .i64] [.snap .bool] (a, b, ()) post = F6 a b post := by kernel_rfl
theorem f7_eq (a : Int) (c : List Int) (post : Bool × Unit → Prop) : fnEval cxG hn7 Try.f7.ntmps Try.f7.results.toList (Try.f7.body.getD .skip) [.int .i64, .slice (.int .i64)] [.snap .bool] (a, c, ()) post = F7 a c post := by kernel_rfl
end Go.Lift

/- The laws of seat r1 are true: Takes of all, Part of all. Own work. -/
set_option linter.unusedVariables false
set_option linter.unusedSimpArgs false
namespace Go.Lift
open Go.Proofs

theorem rng_i64 {n : Int} (h : K.rng (.int .i64) n) : I64 n := by
  have h' : (decide (IntKind.i64.min ≤ n) && decide (n ≤ IntKind.i64.max)) = true := h
  simp [IntKind.min, IntKind.max, IntKind.bits, IntKind.signed] at h'
  unfold I64; omega

def lawCon (ks : List K) : Con := .det ks [.snap .bool] (fun x => KS.rng ks x ∧ KS.wf ks x) (fun _ => (true, ()))

theorem law3 {a b : Int} {c : List Int} (ha : I64 a) (hb : I64 b) (hc : AllI64 c) : F3 a b c (fun r => r = (true, ())) := by
  refine ⟨trivial, Br.intro (fun d => rfl) fun d => ?_⟩
  have d : c.length ≤ 65536 := by have := of_decide_eq_false d; omega
  simp only [Nat.zero_add, List.drop_zero, List.nil_append, List.take_length]
  refine ⟨⟨by trivial, by omega⟩, ⟨ha, hb, hc, d⟩, ?_⟩
  rintro r rfl
  refine ⟨⟨ha, hb, hc, d⟩, ?_⟩
  rintro r rfl
  refine Br.intro (fun _ => ⟨trivial, ?_⟩) fun e => by simp at e
  simp [sameL]

theorem law5 {c : List (Int × Int × Int)} (hc : ∀ x ∈ c, I64 x.1 ∧ I64 x.2.1 ∧ I64 x.2.2) : F5 c (fun r => r = (true, ())) := by
  refine ⟨trivial, Br.intro (fun d => rfl) fun d => ?_⟩
  have d : c.length ≤ 65536 := by have := of_decide_eq_false d; omega
  refine ⟨rfl, fun x _ => x.1 = true ∧ ∃ i : Nat, x.2.1 = i ∧ i ≤ c.length, fun x _ => c.length - x.2.1.toNat, ⟨rfl, 0, rfl, by omega⟩, ?_⟩
  rintro ⟨_, _, ⟨⟩⟩ _ ⟨h1, i, h2, h3⟩
  dsimp only at h1 h2 ⊢
  subst h1 h2
  refine Br.intro (fun e => Br.intro (fun _ => ?_) fun f => by cases f) fun e => rfl
  have e : i < c.length := by have := of_decide_eq_true e; omega
  have hx := hc _ (mem_getD (d := kThree.dflt) e)
  simp only [Int.toNat_natCast]
  refine ⟨⟨by omega, by omega⟩, hx, hx, rfl, ⟨by simp, i + 1, ?_, by omega⟩, ?_⟩
  · rw [wi ⟨by omega, by omega⟩]; omega
  · rw [wi ⟨by omega, by omega⟩]; omega

theorem at3 : FnAt Try.prog 3 Try.f3.ntmps Try.f3.results.toList (Try.f3.body.getD .skip) := ⟨Try.f3, Try.func3, rfl, rfl, by simp, by decide⟩
theorem at5 : FnAt Try.prog 5 Try.f5.ntmps Try.f5.results.toList (Try.f5.body.getD .skip) := ⟨Try.f5, Try.func5, rfl, rfl, by simp, by decide⟩
theorem rng_list {xs : List Int} (h : K.rng (.slice (.int .i64)) xs) : AllI64 xs := fun x hx => rng_i64 (h x hx)
theorem c3 : (lawCon [.int .i64, .int .i64, .slice (.int .i64)]).holds Try.prog cxG.glob 3 := by
  refine det_holds cxG_ok mixed noHn at3 ?_
  rintro ⟨a, b, c, ⟨⟩⟩ ⟨⟨h1, h2, h3, _⟩, _⟩
  exact (f3_eq a b c _).mpr (law3 (rng_i64 h1) (rng_i64 h2) (rng_list h3))
theorem c5 : (lawCon [.slice kThree]).holds Try.prog cxG.glob 5 := by
  refine det_holds cxG_ok mixed hn5 at5 ?_
  rintro ⟨c, ⟨⟩⟩ ⟨⟨h1, _⟩, _⟩
  refine (f5_eq c _).mpr (law5 fun x hx => ?_)
  obtain ⟨g1, g2, g3⟩ := h1 x hx
  exact ⟨rng_i64 g1, rng_i64 g2, rng_i64 g3⟩
end Go.Lift

/- Kinds of types, decided. Own work. -/
set_option linter.unusedVariables false
set_option linter.unusedSimpArgs false
namespace Go.Lift

def kfsB (P : Program) (chk : TypeId → K → Bool) : List Field → Nat → K → Bool
  | [], _, _ => false
  | [f], off, k => f.offset == off && P.cellsOf f.type == k.sz && chk f.type k
  | f :: fs, off, .pair a b => f.offset == off && P.cellsOf f.type == a.sz && chk f.type a && kfsB P chk fs (off + a.sz) b
  | _, _, _ => false

def ktB (P : Program) : Nat → TypeId → K → Bool
  | 0, _, _ => false
  | n + 1, t, k => match k, P.underlying t with
    | .int i, some (.int j) => i == j
    | .flt i, some (.float j) => i == j
    | .bool, some .bool => true
    | .slice e, some (.slice te) => P.cellsOf te == e.sz && decide (0 < e.sz) && decide (1 ≤ P.bytesOf te) && ktB P n te e
    | .arr m e, some (.array m' te) => m == m' && P.cellsOf te == e.sz && P.cellsOf t == m * e.sz && ktB P n te e
    | .pair a b, some (.struct fs) => P.cellsOf t == (K.pair a b).sz && kfsB P (ktB P n) fs.toList 0 (.pair a b)
    | _, _ => false

theorem kfsB_sound {P : Program} {chk : TypeId → K → Bool} (hc : ∀ t k, chk t k = true → KT P t k) : ∀ (fs : List Field) (off : Nat) (k : K), kfsB P chk fs off k = true → KFs P fs off k
  | [], _, _, h => by cases h
  | [f], off, k, h => by
    have h' : (f.offset == off && P.cellsOf f.type == k.sz && chk f.type k) = true := by
      unfold kfsB at h; exact h
    simp only [Bool.and_eq_true, beq_iff_eq] at h'
    exact .one h'.1.1 h'.1.2 (hc _ _ h'.2)
  | f :: g :: fs, off, k, h => by
    cases k with
    | pair a b =>
      have h' : (f.offset == off && P.cellsOf f.type == a.sz && chk f.type a && kfsB P chk (g :: fs) (off + a.sz) b) = true := by
        unfold kfsB at h; exact h
      simp only [Bool.and_eq_true, beq_iff_eq] at h'
      exact .cons h'.1.1.1 h'.1.1.2 (hc _ _ h'.1.2) (kfsB_sound hc _ _ _ h'.2)
    | _ => unfold kfsB at h; cases h

theorem ktB_sound {P : Program} : ∀ (n : Nat) (t : TypeId) (k : K), ktB P n t k = true → KT P t k
  | 0, _, _, h => by cases h
  | n + 1, t, k, h => by
    unfold ktB at h
    split at h
    · rename_i i j hu; exact .int (by rw [hu, eq_of_beq h])
    · rename_i i j hu; exact .flt (by rw [hu, eq_of_beq h])
    · rename_i hu; exact .bool hu
    · rename_i e te hu
      simp only [Bool.and_eq_true, beq_iff_eq, decide_eq_true_eq] at h
      exact .slice hu h.1.1.1 h.1.1.2 h.1.2 (ktB_sound n te e h.2)
    · rename_i m e m' te hu
      simp only [Bool.and_eq_true, beq_iff_eq] at h
      obtain ⟨⟨⟨rfl, h2⟩, h3⟩, h4⟩ := h
      exact .arr hu h2 h3 (ktB_sound n te e h4)
    · rename_i a b fs hu
      simp only [Bool.and_eq_true, beq_iff_eq] at h
      exact .struct hu h.1 (kfsB_sound (fun t k => ktB_sound n t k) _ _ _ h.2)
    · cases h

def ktsB (P : Program) : List TypeId → List K → Bool
  | [], [] => true
  | t :: ts, k :: ks => ktB P 9 t k && ktsB P ts ks
  | _, _ => false
theorem ktsB_sound {P : Program} : ∀ (ts : List TypeId) (ks : List K), ktsB P ts ks = true → All2 (KT P) ts ks
  | [], [], _ => .nil
  | t :: ts, k :: ks, h => by
    simp only [ktsB, Bool.and_eq_true] at h
    exact .cons (ktB_sound 9 t k h.1) (ktsB_sound ts ks h.2)
  | [], _ :: _, h => by cases h
  | _ :: _, [], h => by cases h
end Go.Lift

namespace Go.Proofs.Ytmpkhnblifgokaa
open Go.Lift

theorem tracerTakes_law : LawSpec Rows.tracerTakesSpec 3 := ⟨rfl, fun H ds h => by
  match ds, h with
  | [d1, d2, d3], _ => rfl⟩
theorem own : ownKnob Try.checked.prog.godebug = none := by kernel_rfl
theorem laidOut : laidOutB Try.checked.prog = true := by kernel_rfl

set_option maxRecDepth 100000 in
theorem tracerTakes_lifted (os : Os) (started : os.Started) (H : Type) (enc : TypeId × Value → H) :
    ReturnsInHanded {} Try.checked os 3 .any (Rows.tracerTakesSpec.pre6 enc Try.checked.prog Try.f3 [] false) (Rows.tracerTakesSpec.post enc Try.checked.prog Try.f3 false true false false) :=
  law_handed (C := Try.checked) own started (by kernel_rfl) Try.func3 rfl (by decide)
    (ChangeSpec.witness6 (enc := enc) (C := Try.checked) false ⟨#[], #[.int .i64 0, .int .i64 0, .slice none 0 0], []⟩ 12 (by kernel_rfl) (by kernel_rfl) (by kernel_rfl) (by kernel_rfl))
    laidOut (ktsB_sound _ [.int .i64, .int .i64, .slice (.int .i64)] (by kernel_rfl)) (by decide +kernel) rfl (by kernel_rfl) tracerTakes_law c3 (fun x h w => ⟨h, w⟩)

theorem tracerTakes_holds : Rows.TracerTakesSaid :=
  OpenClaim.holds_of_wide 3 Try.f3 rfl rfl rfl rfl rfl rfl rfl ⟨rfl, rfl, rfl, rfl, rfl⟩ rfl rfl rfl rfl rfl (by kernel_rfl) Try.func3 (by kernel_rfl)
    (of_decide_eq_true (by kernel_rfl)) (by unfold Func.isWrapper; first | (rw [if_pos (by decide +kernel)]; kernel_rfl) | (rw [if_neg (by decide +kernel)]; exact ⟨rfl, rfl⟩))
    (fun os started H enc _ => tracerTakes_lifted os started H enc)
end Go.Proofs.Ytmpkhnblifgokaa
