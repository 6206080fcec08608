/- tarnlaw24.TileNear: at every input it returns true and leaves the arguments as they were; geom.frames reads as the program's text lays it. -/
import Derived.Test.YtomopcclgokehaaDoorTie
import Derived.Test.YtomopcclgokehaaDoorCards
import Derived.Test.YtomopcclgokehaaDoorPtE
set_option linter.unusedVariables false
set_option linter.unusedSimpArgs false
set_option linter.unusedSectionVars false
/- Contracts of functions, of a seat. Own work. -/
set_option linter.unusedVariables false
set_option linter.unusedSimpArgs false
namespace Go.Lift
open Go.Proofs
def Dx_vec_canon : Cx := ⟨tabOf Dtab, conOf [(55, Dq_bits_Canon)], DG⟩
theorem Dx_vec_canon_ok : CxOk Tryd.prog Dx_vec_canon := ⟨tabB_sound Dtab_ok, conOf_sound ⟨Dh_bits_Canon, trivial⟩⟩
theorem Dat_vec_canon : FnAt Tryd.prog 58 Tryd.f58.ntmps Tryd.f58.results.toList (Tryd.f58.body.getD .skip) := ⟨Tryd.f58, Tryd.func58, rfl, rfl, by simp, by decide⟩
theorem Deq_vec_canon (a : Nat) (b : Nat) (c : Nat) (post : (Nat × Nat × Nat) × Unit → Prop) : fnEval Dx_vec_canon nHn Tryd.f58.ntmps Tryd.f58.results.toList (Tryd.f58.body.getD .skip) [.flt .f64, .flt .f64, .flt .f64] [.snap kVec] (a, b, c, ()) post = Fx_vec_canon  a b c post := by kernel_rfl
theorem Dh_vec_canon : Dq_vec_canon.holds Tryd.prog DG 58 :=
  detP Dx_vec_canon_ok Dmixed nHn Dat_vec_canon (F := fun x post => Fx_vec_canon  x.1 x.2.1 x.2.2.1 post) (fun x post => Deq_vec_canon x.1 x.2.1 x.2.2.1 post) fun x _ _ => Lx_vec_canon  x.1 x.2.1 x.2.2.1
def Dx_vec_Minus : Cx := ⟨tabOf Dtab, conOf [(58, Dq_vec_canon)], DG⟩
theorem Dx_vec_Minus_ok : CxOk Tryd.prog Dx_vec_Minus := ⟨tabB_sound Dtab_ok, conOf_sound ⟨Dh_vec_canon, trivial⟩⟩
theorem Dat_vec_Minus : FnAt Tryd.prog 42 Tryd.f42.ntmps Tryd.f42.results.toList (Tryd.f42.body.getD .skip) := ⟨Tryd.f42, Tryd.func42, rfl, rfl, by simp, by decide⟩
theorem Deq_vec_Minus (a : Nat × Nat × Nat) (b : Nat × Nat × Nat) (post : (Nat × Nat × Nat) × Unit → Prop) : fnEval Dx_vec_Minus nHn Tryd.f42.ntmps Tryd.f42.results.toList (Tryd.f42.body.getD .skip) [kVec, kVec] [.snap kVec] (a, b, ()) post = Fx_vec_Minus  a b post := by kernel_rfl
theorem Dh_vec_Minus : Dq_vec_Minus.holds Tryd.prog DG 42 :=
  detP Dx_vec_Minus_ok Dmixed nHn Dat_vec_Minus (F := fun x post => Fx_vec_Minus  x.1 x.2.1 post) (fun x post => Deq_vec_Minus x.1 x.2.1 post) fun x h _ => Lx_vec_Minus  x.1 x.2.1 h
def Dx_vec_Cross : Cx := ⟨tabOf Dtab, conOf [(58, Dq_vec_canon)], DG⟩
theorem Dx_vec_Cross_ok : CxOk Tryd.prog Dx_vec_Cross := ⟨tabB_sound Dtab_ok, conOf_sound ⟨Dh_vec_canon, trivial⟩⟩
theorem Dat_vec_Cross : FnAt Tryd.prog 41 Tryd.f41.ntmps Tryd.f41.results.toList (Tryd.f41.body.getD .skip) := ⟨Tryd.f41, Tryd.func41, rfl, rfl, by simp, by decide⟩
theorem Deq_vec_Cross (a : Nat × Nat × Nat) (b : Nat × Nat × Nat) (post : (Nat × Nat × Nat) × Unit → Prop) : fnEval Dx_vec_Cross nHn Tryd.f41.ntmps Tryd.f41.results.toList (Tryd.f41.body.getD .skip) [kVec, kVec] [.snap kVec] (a, b, ()) post = Fx_vec_Cross  a b post := by kernel_rfl
theorem Dh_vec_Cross : Dq_vec_Cross.holds Tryd.prog DG 41 :=
  detP Dx_vec_Cross_ok Dmixed nHn Dat_vec_Cross (F := fun x post => Fx_vec_Cross  x.1 x.2.1 post) (fun x post => Deq_vec_Cross x.1 x.2.1 post) fun x _ _ => Lx_vec_Cross  x.1 x.2.1
def Dx_math_Sqrt : Cx := ⟨tabOf Dtab, conOf [(63, Dq_math_sqrt)], DG⟩
theorem Dx_math_Sqrt_ok : CxOk Tryd.prog Dx_math_Sqrt := ⟨tabB_sound Dtab_ok, conOf_sound ⟨Dh_math_sqrt, trivial⟩⟩
theorem Dat_math_Sqrt : FnAt Tryd.prog 56 Tryd.f56.ntmps Tryd.f56.results.toList (Tryd.f56.body.getD .skip) := ⟨Tryd.f56, Tryd.func56, rfl, rfl, by simp, by decide⟩
theorem Deq_math_Sqrt (a : Nat) (post : Nat × Unit → Prop) : fnEval Dx_math_Sqrt nHn Tryd.f56.ntmps Tryd.f56.results.toList (Tryd.f56.body.getD .skip) [.flt .f64] [.snap (.flt .f64)] (a, ()) post = Fx_math_Sqrt  a post := by kernel_rfl
theorem Dh_math_Sqrt : Dq_math_Sqrt.holds Tryd.prog DG 56 :=
  relP Dx_math_Sqrt_ok Dmixed nHn Dat_math_Sqrt (F := fun x post => Fx_math_Sqrt  x.1 post) (fun x post => Deq_math_Sqrt x.1 post) fun x _ _ => Lx_math_Sqrt  x.1
def Dx_vec_Length : Cx := ⟨tabOf Dtab, conOf [(57, Dq_sum_Three), (56, Dq_math_Sqrt), (55, Dq_bits_Canon)], DG⟩
theorem Dx_vec_Length_ok : CxOk Tryd.prog Dx_vec_Length := ⟨tabB_sound Dtab_ok, conOf_sound ⟨Dh_sum_Three, Dh_math_Sqrt, Dh_bits_Canon, trivial⟩⟩
theorem Dat_vec_Length : FnAt Tryd.prog 40 Tryd.f40.ntmps Tryd.f40.results.toList (Tryd.f40.body.getD .skip) := ⟨Tryd.f40, Tryd.func40, rfl, rfl, by simp, by decide⟩
theorem Deq_vec_Length (a : Nat × Nat × Nat) (post : Nat × Unit → Prop) : fnEval Dx_vec_Length nHn Tryd.f40.ntmps Tryd.f40.results.toList (Tryd.f40.body.getD .skip) [kVec] [.snap (.flt .f64)] (a, ()) post = Fx_vec_Length  a post := by kernel_rfl
theorem Dh_vec_Length : Dq_vec_Length.holds Tryd.prog DG 40 :=
  detP Dx_vec_Length_ok Dmixed nHn Dat_vec_Length (F := fun x post => Fx_vec_Length  x.1 post) (fun x post => Deq_vec_Length x.1 post) fun x h _ => Lx_vec_Length  x.1 h
def Dx_vec_Unit : Cx := ⟨tabOf Dtab, conOf [(40, Dq_vec_Length), (80, Dq_math_IsInf), (58, Dq_vec_canon)], DG⟩
theorem Dx_vec_Unit_ok : CxOk Tryd.prog Dx_vec_Unit := ⟨tabB_sound Dtab_ok, conOf_sound ⟨Dh_vec_Length, Dh_math_IsInf, Dh_vec_canon, trivial⟩⟩
theorem Dat_vec_Unit : FnAt Tryd.prog 72 Tryd.f72.ntmps Tryd.f72.results.toList (Tryd.f72.body.getD .skip) := ⟨Tryd.f72, Tryd.func72, rfl, rfl, by simp, by decide⟩
theorem Deq_vec_Unit (a : Nat × Nat × Nat) (post : (Nat × Nat × Nat) × Unit → Prop) : fnEval Dx_vec_Unit nHn Tryd.f72.ntmps Tryd.f72.results.toList (Tryd.f72.body.getD .skip) [kVec] [.snap kVec] (a, ()) post = Fx_vec_Unit  a post := by kernel_rfl
theorem Dh_vec_Unit : Dq_vec_Unit.holds Tryd.prog DG 72 :=
  detP Dx_vec_Unit_ok Dmixed nHn Dat_vec_Unit (F := fun x post => Fx_vec_Unit  x.1 post) (fun x post => Deq_vec_Unit x.1 post) fun x h _ => Lx_vec_Unit  x.1 h
end Go.Lift

/- Own work. -/
set_option linter.unusedVariables false
set_option linter.unusedSimpArgs false
namespace Go.Lift
def Fx_conv_FromInt := fun (a : Int) (post : Nat × Unit → Prop) => post (Go.FloatKind.f64.nearest a, ())
theorem Lx_conv_FromInt (a : Int) : Fx_conv_FromInt  a (fun r => r = ofIR a) := by
  exact rfl
def Fx_level_Depth := fun (a b : Int) (post : Nat × Unit → Prop) => ∀ (a_1 : Bool), a_1 = decide (a < (1 : Int)) → Br a_1 (post ((0 : Nat), ())) (∀ (a_2 : Bool), a_2 = decide (b <
  (1 : Int)) → Br a_2 (post ((0 : Nat), ())) (∃ (h : True), ∃ (h : True), ∀ (a_3 : Nat), FRes Go.FloatKind.f64 (Go.FloatKind.f64.format.div (ofIR a).fst (ofIR b).fst) a_3 → post
  (a_3, ())))
theorem Lx_level_Depth (a : Int) (b : Int) (h : II a b) : Fx_level_Depth  a b (fun r => r = depthR a b) := by
  rintro _ rfl
  refine Br.intro (fun e => ?_) fun e => ?_
  · exact congrArg r1 (by unfold depthQ; rw [if_pos (.inl (of_decide_eq_true e))])
  · rintro _ rfl
    refine Br.intro (fun f => ?_) fun f => ?_
    · exact congrArg r1 (by unfold depthQ; rw [if_pos (.inr (of_decide_eq_true f))])
    · have e := of_decide_eq_false e
      have f := of_decide_eq_false f
      refine ⟨trivial, trivial, fun r hr => congrArg r1 ?_⟩
      rw [div_ofI h.1 (by omega) h.2 hr]
      unfold depthQ; rw [if_neg (by omega)]
def Fx_math_Floor := fun (a : Nat) (post : Nat × Unit → Prop) => ∃ (h : WNum a), post ((floorR a).fst, ())
theorem Lx_math_Floor (a : Nat) (h : WNum a) : Fx_math_Floor  a (fun r => r = floorR a) := by
  exact ⟨h, rfl⟩
def Fx_conv_To32 := fun (a : Nat) (post : Int × Unit → Prop) => ∃ (h : True), ∃ (h : (0 : Int) ≤ (32 : Int)), ∃ (h : W64 a), ∃ (h : True), ∀ (a_1 : Bool), a_1 = (nanR a).fst → Br
  a_1 (post ((2143289344 : Int), ())) (∀ (a_2 : Bool), a_2 = fcmp Go.BinOp.geq (Go.FloatKind.f64.format.order (absR a).fst (5183643170835005440 : Nat)) → Br a_2 (post (Go.bits
  Go.BinOp.or IntKind.u32 (IntKind.u32.wrap (Go.bits Go.BinOp.and IntKind.u64 ((bitsR a).fst.fdiv ((2 : Int) ^ Min.min (Int.toNat (32 : Int)) IntKind.u64.bits)) (2147483648 : Int)))
  (2139095040 : Int), ())) (∀ (a_3 : Nat), F2F Go.FloatKind.f64 (absR a).fst Go.FloatKind.f32 a_3 → ∃ (h : True), post (Go.bits Go.BinOp.or IntKind.u32 (IntKind.u32.wrap (Go.bits
  Go.BinOp.and IntKind.u64 ((bitsR a).fst.fdiv ((2 : Int) ^ Min.min (Int.toNat (32 : Int)) IntKind.u64.bits)) (2147483648 : Int))) (bits32R a_3).fst, ())))
theorem Lx_conv_To32 (a : Nat) (h : W64 a) : Fx_conv_To32  a (fun r => r = to32R a) := by
  refine ⟨trivial, by decide, h, trivial, ?_⟩
  have hs := sign_part h
  rintro _ rfl
  refine Br.intro (fun e => ?_) fun e => ?_
  · have e : isN a = true := e
    exact congrArg r1 (by unfold to32; rw [if_pos e])
  · have e : isN a = false := e
    rintro _ rfl
    refine Br.intro (fun f => ?_) fun f => ?_
    · have f : fcmp .geq (Ieee.double.order (rungOf a) 5183643170835005440) = true := f
      rw [geq_big, e] at f
      have f : 5183643170835005440 ≤ rungOf a := by simpa using f
      refine congrArg r1 ?_
      show Go.bits .or .u32 (IntKind.u32.wrap (Go.bits .and .u64 (Int.fdiv (a : Int) _) 2147483648)) ((2139095040 : Nat) : Int) = _
      rw [hs, or32 _ (by decide)]
      unfold to32; rw [if_neg (c := isN a = true) (by rw [e]; decide), if_pos f]
    · have f : fcmp .geq (Ieee.double.order (rungOf a) 5183643170835005440) = false := f
      rw [geq_big, e] at f
      have f : rungOf a < 5183643170835005440 := by simpa using f
      intro n hn
      have hn : n = Ieee.single.write (Ieee.double.read (rungOf a)) := to32_conv f hn
      obtain ⟨k, hk, hk2⟩ := single_small f
      refine ⟨trivial, congrArg r1 ?_⟩
      show Go.bits .or .u32 (IntKind.u32.wrap (Go.bits .and .u64 (Int.fdiv (a : Int) _) 2147483648)) (n : Int) = _
      rw [hs, hn, hk2, or32 _ (by omega)]
      unfold to32; rw [if_neg (c := isN a = true) (by rw [e]; decide), if_neg (c := 5183643170835005440 ≤ rungOf a) (by omega), hk2]
def Fx_conv_near := fun (a : Nat) (post : Int × Unit → Prop) => ∃ (h : WNum a), ∀ (a_1 : Int), F2I Go.FloatKind.f64 (floorR a).fst IntKind.u64 a_1 → ∀ (a_2 : Nat), FRes
  Go.FloatKind.f64 (Go.FloatKind.f64.format.sub a (floorR a).fst) a_2 → ∀ (a : Bool), a = fcmp Go.BinOp.gtr (Go.FloatKind.f64.format.order a_2 (4602678819172646912 : Nat)) → Br a
  (post (IntKind.u64.wrap (a_1 + (1 : Int)), ())) (∀ (a : Bool), a = fcmp Go.BinOp.eql (Go.FloatKind.f64.format.order a_2 (4602678819172646912 : Nat)) → Br a (∃ (h : (2 : Int) ≠ (0
  : Int)), ∀ (a : Bool), a = (a_1.tmod (2 : Int) == (1 : Int)) → Br a (post (IntKind.u64.wrap (a_1 + (1 : Int)), ())) (post (a_1, ()))) (post (a_1, ())))
theorem Lx_conv_near (a : Nat) (h : WNear a) : Fx_conv_near  a (fun r => r = nearR a) := by
  have hw : W64 a := by unfold WNear two63 at h; unfold W64; omega
  have hn : isN a = false := by
    have := (small_sgn (r := a) (by unfold WNear two63 at h; omega)).2.1
    unfold isN; rw [this, decide_eq_false_iff_not]; unfold WNear two63 at h; unfold infR; omega
  refine ⟨⟨hw, hn⟩, ?_⟩
  intro n hn2
  have hn2 := floor_int h hn2
  subst hn2
  intro d hd
  have hd : ∀ z, Ieee.double.order d z = Ieee.double.order (subQ a (floorF a)) z := sub_congr_order hd
  obtain ⟨_, r1', r2'⟩ := whole_rng h
  have hwp : IntKind.u64.wrap (wholeI (floorF a) + 1) = wholeI (floorF a) + 1 := wu1 ⟨by omega, by omega⟩
  have tm : (wholeI (floorF a)).tmod 2 = wholeI (floorF a) % 2 := Int.tmod_eq_emod_of_nonneg r1'
  rintro _ rfl
  refine Br.intro (fun e => ?_) fun e => ?_
  · rw [show Go.FloatKind.f64.format.order d 4602678819172646912 = _ from hd _] at e
    exact congrArg r1 (by rw [hwp]; unfold nearI; rw [if_pos (by rw [show fcmp .gtr (Ieee.double.order (subQ a (floorF a)) halfR) = true from e]; rfl)])
  · rw [show Go.FloatKind.f64.format.order d 4602678819172646912 = _ from hd _] at e
    rintro _ rfl
    refine Br.intro (fun f => ?_) fun f => ?_
    · rw [show Go.FloatKind.f64.format.order d 4602678819172646912 = _ from hd _] at f
      refine ⟨by decide, ?_⟩
      rintro _ rfl
      refine Br.intro (fun g => ?_) fun g => ?_
      · rw [tm] at g
        exact congrArg r1 (by rw [hwp]; unfold nearI; rw [if_pos (by rw [show fcmp .eql (Ieee.double.order (subQ a (floorF a)) halfR) = true from f, g, Bool.true_and, Bool.or_true])])
      · rw [tm] at g
        exact congrArg r1 (by unfold nearI; rw [if_neg (by rw [show fcmp .gtr (Ieee.double.order (subQ a (floorF a)) halfR) = false from e, g, Bool.and_false]; decide)])
    · rw [show Go.FloatKind.f64.format.order d 4602678819172646912 = _ from hd _] at f
      exact congrArg r1 (by unfold nearI; rw [if_neg (by rw [show fcmp .gtr (Ieee.double.order (subQ a (floorF a)) halfR) = false from e, show fcmp .eql (Ieee.double.order (subQ a (floorF a)) halfR) = false from f, Bool.false_and]; decide)])
def Fx_conv_Round := fun (a : Nat) (post : Int × Bool × Unit → Prop) => ∃ (h : W64 a), ∀ (a_1 : Bool), a_1 = fcmp Go.BinOp.lss (Go.FloatKind.f64.format.order (absR a).fst
  (4890909195324358656 : Nat)) → Br a_1 (∃ (h : WNear (absR a).fst), ∀ (a_2 : Bool), a_2 = fcmp Go.BinOp.lss (Go.FloatKind.f64.format.order a (0 : Nat)) → Br a_2 (post
  (IntKind.i64.wrap ((0 : Int) - IntKind.i64.wrap (nearR (absR a).fst).fst), Bool.true, ())) (post (IntKind.i64.wrap (nearR (absR a).fst).fst, Bool.true, ()))) (∀ (a_2 : Bool), a_2
  = fcmp Go.BinOp.eql (Go.FloatKind.f64.format.order a (14114281232179134464 : Nat)) → Br a_2 (post ((-9223372036854775808 : Int), Bool.true, ())) (post ((0 : Int), Bool.false,
  ())))
theorem Lx_conv_Round (a : Nat) (h : W64 a) : Fx_conv_Round  a (fun r => r = roundR a) := by
  refine ⟨h, ?_⟩
  rintro _ rfl
  refine Br.intro (fun e => ?_) fun e => ?_
  · have e : fcmp .lss (Ieee.double.order (rungOf a) two63) = true := e
    rw [lss_rung] at e
    have e := of_decide_eq_true e
    have hn : isN a = false := by unfold isN; rw [decide_eq_false_iff_not]; unfold two63 at e; unfold infR; omega
    refine ⟨e, ?_⟩
    rintro _ rfl
    refine Br.intro (fun f => ?_) fun f => ?_
    · rw [show fcmp .lss (Go.FloatKind.f64.format.order a 0) = _ from lss_nought hn] at f
      unfold roundR roundI; rw [if_pos e, if_pos f]; rfl
    · rw [show fcmp .lss (Go.FloatKind.f64.format.order a 0) = _ from lss_nought hn] at f
      unfold roundR roundI; rw [if_pos e, if_neg (by rw [f]; decide)]; rfl
  · have e : fcmp .lss (Ieee.double.order (rungOf a) two63) = false := e
    rw [lss_rung] at e
    have e := of_decide_eq_false e
    rintro _ rfl
    refine Br.intro (fun f => ?_) fun f => ?_
    · rw [show fcmp .eql (Go.FloatKind.f64.format.order a 14114281232179134464) = _ from eql_min h] at f
      unfold roundR roundI; rw [if_neg e, if_pos (show a = two63 + 9223372036854775808 from of_decide_eq_true f)]
    · rw [show fcmp .eql (Go.FloatKind.f64.format.order a 14114281232179134464) = _ from eql_min h] at f
      unfold roundR roundI; rw [if_neg e, if_neg (show ¬ a = two63 + 9223372036854775808 from of_decide_eq_false f)]
end Go.Lift

/- Contracts of functions, of a seat. Own work. -/
set_option linter.unusedVariables false
set_option linter.unusedSimpArgs false
namespace Go.Lift
open Go.Proofs
def Dx_conv_FromInt : Cx := ⟨tabOf Dtab, conOf [], DG⟩
theorem Dx_conv_FromInt_ok : CxOk Tryd.prog Dx_conv_FromInt := ⟨tabB_sound Dtab_ok, fun f c h => by cases h⟩
theorem Dat_conv_FromInt : FnAt Tryd.prog 38 Tryd.f38.ntmps Tryd.f38.results.toList (Tryd.f38.body.getD .skip) := ⟨Tryd.f38, Tryd.func38, rfl, rfl, by simp, by decide⟩
theorem Deq_conv_FromInt (a : Int) (post : Nat × Unit → Prop) : fnEval Dx_conv_FromInt nHn Tryd.f38.ntmps Tryd.f38.results.toList (Tryd.f38.body.getD .skip) [.int .i64] [.snap (.flt .f64)] (a, ()) post = Fx_conv_FromInt  a post := by kernel_rfl
theorem Dh_conv_FromInt : Dq_conv_FromInt.holds Tryd.prog DG 38 :=
  detP Dx_conv_FromInt_ok Dmixed nHn Dat_conv_FromInt (F := fun x post => Fx_conv_FromInt  x.1 post) (fun x post => Deq_conv_FromInt x.1 post) fun x _ _ => Lx_conv_FromInt  x.1
def Dx_level_Depth : Cx := ⟨tabOf Dtab, conOf [(38, Dq_conv_FromInt)], DG⟩
theorem Dx_level_Depth_ok : CxOk Tryd.prog Dx_level_Depth := ⟨tabB_sound Dtab_ok, conOf_sound ⟨Dh_conv_FromInt, trivial⟩⟩
theorem Dat_level_Depth : FnAt Tryd.prog 18 Tryd.f18.ntmps Tryd.f18.results.toList (Tryd.f18.body.getD .skip) := ⟨Tryd.f18, Tryd.func18, rfl, rfl, by simp, by decide⟩
theorem Deq_level_Depth (a : Int) (b : Int) (post : Nat × Unit → Prop) : fnEval Dx_level_Depth nHn Tryd.f18.ntmps Tryd.f18.results.toList (Tryd.f18.body.getD .skip) [.int .i64, .int .i64] [.snap (.flt .f64)] (a, b, ()) post = Fx_level_Depth  a b post := by kernel_rfl
theorem Dh_level_Depth : Dq_level_Depth.holds Tryd.prog DG 18 :=
  detP Dx_level_Depth_ok Dmixed nHn Dat_level_Depth (F := fun x post => Fx_level_Depth  x.1 x.2.1 post) (fun x post => Deq_level_Depth x.1 x.2.1 post) fun x h _ => Lx_level_Depth  x.1 x.2.1 h
theorem Dh_math_Float32bits : Dq_math_Float32bits.holds Tryd.prog DG 37 := by
  refine ext_bits32 (fn := Tryd.f37) Tryd.func37 (by decide) rfl rfl (by kernel_rfl)
theorem Dh_math_archFloor : Dq_math_archFloor.holds Tryd.prog DG 78 := by
  refine ext_floor (fn := Tryd.f78) Tryd.func78 (by decide) rfl rfl (by kernel_rfl)
def Dx_math_Floor : Cx := ⟨tabOf Dtab, conOf [(78, Dq_math_archFloor)], DG⟩
theorem Dx_math_Floor_ok : CxOk Tryd.prog Dx_math_Floor := ⟨tabB_sound Dtab_ok, conOf_sound ⟨Dh_math_archFloor, trivial⟩⟩
theorem Dat_math_Floor : FnAt Tryd.prog 71 Tryd.f71.ntmps Tryd.f71.results.toList (Tryd.f71.body.getD .skip) := ⟨Tryd.f71, Tryd.func71, rfl, rfl, by simp, by decide⟩
theorem Deq_math_Floor (a : Nat) (post : Nat × Unit → Prop) : fnEval Dx_math_Floor nHn Tryd.f71.ntmps Tryd.f71.results.toList (Tryd.f71.body.getD .skip) [.flt .f64] [.snap (.flt .f64)] (a, ()) post = Fx_math_Floor  a post := by kernel_rfl
theorem Dh_math_Floor : Dq_math_Floor.holds Tryd.prog DG 71 :=
  detP Dx_math_Floor_ok Dmixed nHn Dat_math_Floor (F := fun x post => Fx_math_Floor  x.1 post) (fun x post => Deq_math_Floor x.1 post) fun x h _ => Lx_math_Floor  x.1 h
def Dx_conv_To32 : Cx := ⟨tabOf Dtab, conOf [(34, Dq_math_Float64bits), (35, Dq_math_Abs), (36, Dq_math_IsNaN), (37, Dq_math_Float32bits)], DG⟩
theorem Dx_conv_To32_ok : CxOk Tryd.prog Dx_conv_To32 := ⟨tabB_sound Dtab_ok, conOf_sound ⟨Dh_math_Float64bits, Dh_math_Abs, Dh_math_IsNaN, Dh_math_Float32bits, trivial⟩⟩
theorem Dat_conv_To32 : FnAt Tryd.prog 17 Tryd.f17.ntmps Tryd.f17.results.toList (Tryd.f17.body.getD .skip) := ⟨Tryd.f17, Tryd.func17, rfl, rfl, by simp, by decide⟩
theorem Deq_conv_To32 (a : Nat) (post : Int × Unit → Prop) : fnEval Dx_conv_To32 nHn Tryd.f17.ntmps Tryd.f17.results.toList (Tryd.f17.body.getD .skip) [.flt .f64] [.snap (.int .u32)] (a, ()) post = Fx_conv_To32  a post := by kernel_rfl
theorem Dh_conv_To32 : Dq_conv_To32.holds Tryd.prog DG 17 :=
  detP Dx_conv_To32_ok Dmixed nHn Dat_conv_To32 (F := fun x post => Fx_conv_To32  x.1 post) (fun x post => Deq_conv_To32 x.1 post) fun x h _ => Lx_conv_To32  x.1 h
def Dx_conv_near : Cx := ⟨tabOf Dtab, conOf [(71, Dq_math_Floor)], DG⟩
theorem Dx_conv_near_ok : CxOk Tryd.prog Dx_conv_near := ⟨tabB_sound Dtab_ok, conOf_sound ⟨Dh_math_Floor, trivial⟩⟩
theorem Dat_conv_near : FnAt Tryd.prog 59 Tryd.f59.ntmps Tryd.f59.results.toList (Tryd.f59.body.getD .skip) := ⟨Tryd.f59, Tryd.func59, rfl, rfl, by simp, by decide⟩
theorem Deq_conv_near (a : Nat) (post : Int × Unit → Prop) : fnEval Dx_conv_near nHn Tryd.f59.ntmps Tryd.f59.results.toList (Tryd.f59.body.getD .skip) [.flt .f64] [.snap (.int .u64)] (a, ()) post = Fx_conv_near  a post := by kernel_rfl
theorem Dh_conv_near : Dq_conv_near.holds Tryd.prog DG 59 :=
  detP Dx_conv_near_ok Dmixed nHn Dat_conv_near (F := fun x post => Fx_conv_near  x.1 post) (fun x post => Deq_conv_near x.1 post) fun x h _ => Lx_conv_near  x.1 h
def Dx_conv_Round : Cx := ⟨tabOf Dtab, conOf [(35, Dq_math_Abs), (59, Dq_conv_near)], DG⟩
theorem Dx_conv_Round_ok : CxOk Tryd.prog Dx_conv_Round := ⟨tabB_sound Dtab_ok, conOf_sound ⟨Dh_math_Abs, Dh_conv_near, trivial⟩⟩
theorem Dat_conv_Round : FnAt Tryd.prog 43 Tryd.f43.ntmps Tryd.f43.results.toList (Tryd.f43.body.getD .skip) := ⟨Tryd.f43, Tryd.func43, rfl, rfl, by simp, by decide⟩
theorem Deq_conv_Round (a : Nat) (post : Int × Bool × Unit → Prop) : fnEval Dx_conv_Round nHn Tryd.f43.ntmps Tryd.f43.results.toList (Tryd.f43.body.getD .skip) [.flt .f64] [.snap (.int .i64), .snap .bool] (a, ()) post = Fx_conv_Round  a post := by kernel_rfl
theorem Dh_conv_Round : Dq_conv_Round.holds Tryd.prog DG 43 :=
  detP Dx_conv_Round_ok Dmixed nHn Dat_conv_Round (F := fun x post => Fx_conv_Round  x.1 post) (fun x post => Deq_conv_Round x.1 post) fun x h _ => Lx_conv_Round  x.1 h
end Go.Lift

/- Contracts of functions, of a seat. Own work. -/
set_option linter.unusedVariables false
set_option linter.unusedSimpArgs false
namespace Go.Lift
open Go.Proofs
def Dx_geom_ratio : Cx := ⟨tabOf Dtab, conOf [], DG⟩
theorem Dx_geom_ratio_ok : CxOk Tryd.prog Dx_geom_ratio := ⟨tabB_sound Dtab_ok, fun f c h => by cases h⟩
theorem Dat_geom_ratio : FnAt Tryd.prog 61 Tryd.f61.ntmps Tryd.f61.results.toList (Tryd.f61.body.getD .skip) := ⟨Tryd.f61, Tryd.func61, rfl, rfl, by simp, by decide⟩
theorem Deq_geom_ratio (a : Int) (b : Int) (post : Nat × Unit → Prop) : fnEval Dx_geom_ratio nHn Tryd.f61.ntmps Tryd.f61.results.toList (Tryd.f61.body.getD .skip) [.int .i64, .int .i64] [.snap (.flt .f64)] (a, b, ()) post = Fx_geom_ratio  a b post := by kernel_rfl
theorem Dh_geom_ratio : Dq_geom_ratio.holds Tryd.prog DG 61 :=
  detP Dx_geom_ratio_ok Dmixed nHn Dat_geom_ratio (F := fun x post => Fx_geom_ratio  x.1 x.2.1 post) (fun x post => Deq_geom_ratio x.1 x.2.1 post) fun x h _ => Lx_geom_ratio  x.1 x.2.1 h
def Dx_geom_point : Cx := ⟨tabOf Dtab, conOf [(55, Dq_bits_Canon), (72, Dq_vec_Unit)], DG⟩
theorem Dx_geom_point_ok : CxOk Tryd.prog Dx_geom_point := ⟨tabB_sound Dtab_ok, conOf_sound ⟨Dh_bits_Canon, Dh_vec_Unit, trivial⟩⟩
theorem Dat_geom_point : FnAt Tryd.prog 60 Tryd.f60.ntmps Tryd.f60.results.toList (Tryd.f60.body.getD .skip) := ⟨Tryd.f60, Tryd.func60, rfl, rfl, by simp, by decide⟩
theorem Deq_geom_point (f : Int) (s : Nat) (t : Nat) (post : (Nat × Nat × Nat) × Unit → Prop) : fnEval Dx_geom_point Dhn_geom_point Tryd.f60.ntmps Tryd.f60.results.toList (Tryd.f60.body.getD .skip) [.int .i64, .flt .f64, .flt .f64] [.snap kVec] (f, s, t, ()) post = Fx_geom_point 72 98 f s t post := by kernel_rfl
theorem Dh_geom_point : Dq_geom_point.holds Tryd.prog DG 60 :=
  detP Dx_geom_point_ok Dmixed Dhn_geom_point Dat_geom_point (F := fun x post => Fx_geom_point 72 98 x.1 x.2.1 x.2.2.1 post) (fun x post => Deq_geom_point x.1 x.2.1 x.2.2.1 post) fun x h _ => Lx_geom_point 72 98 x.1 x.2.1 x.2.2.1 h
def Dx_geom_Corner : Cx := ⟨tabOf Dtab, conOf [(31, Dq_cube_Cells), (61, Dq_geom_ratio), (60, Dq_geom_point)], DG⟩
theorem Dx_geom_Corner_ok : CxOk Tryd.prog Dx_geom_Corner := ⟨tabB_sound Dtab_ok, conOf_sound ⟨Dh_cube_Cells, Dh_geom_ratio, Dh_geom_point, trivial⟩⟩
theorem Dat_geom_Corner : FnAt Tryd.prog 54 Tryd.f54.ntmps Tryd.f54.results.toList (Tryd.f54.body.getD .skip) := ⟨Tryd.f54, Tryd.func54, rfl, rfl, by simp, by decide⟩
theorem Deq_geom_Corner (n : Int) (f : Int) (i : Int) (j : Int) (post : (Nat × Nat × Nat) × Bool × Unit → Prop) : fnEval Dx_geom_Corner nHn Tryd.f54.ntmps Tryd.f54.results.toList (Tryd.f54.body.getD .skip) [.int .i64, .int .i64, .int .i64, .int .i64] [.snap kVec, .snap .bool] (n, f, i, j, ()) post = Fx_geom_Corner  n f i j post := by kernel_rfl
theorem Dh_geom_Corner : Dq_geom_Corner.holds Tryd.prog DG 54 :=
  detP Dx_geom_Corner_ok Dmixed nHn Dat_geom_Corner (F := fun x post => Fx_geom_Corner  x.1 x.2.1 x.2.2.1 x.2.2.2.1 post) (fun x post => Deq_geom_Corner x.1 x.2.1 x.2.2.1 x.2.2.2.1 post) fun x h _ => Lx_geom_Corner  x.1 x.2.1 x.2.2.1 x.2.2.2.1 h
def Dx_geom_corners : Cx := ⟨tabOf Dtab, conOf [(53, Dq_cube_Place), (54, Dq_geom_Corner)], DG⟩
theorem Dx_geom_corners_ok : CxOk Tryd.prog Dx_geom_corners := ⟨tabB_sound Dtab_ok, conOf_sound ⟨Dh_cube_Place, Dh_geom_Corner, trivial⟩⟩
theorem Dat_geom_corners : FnAt Tryd.prog 39 Tryd.f39.ntmps Tryd.f39.results.toList (Tryd.f39.body.getD .skip) := ⟨Tryd.f39, Tryd.func39, rfl, rfl, by simp, by decide⟩
theorem Deq_geom_corners (n : Int) (c : Int) (post : (List (Nat × Nat × Nat)) × Bool × Unit → Prop) : fnEval Dx_geom_corners Dhn_geom_corners Tryd.f39.ntmps Tryd.f39.results.toList (Tryd.f39.body.getD .skip) [.int .i64, .int .i64] [.snap (.arr 4 kVec), .snap .bool] (n, c, ()) post = Fx_geom_corners  n c post := by kernel_rfl
theorem Dh_geom_corners : Dq_geom_corners.holds Tryd.prog DG 39 :=
  detP Dx_geom_corners_ok Dmixed Dhn_geom_corners Dat_geom_corners (F := fun x post => Fx_geom_corners  x.1 x.2.1 post) (fun x post => Deq_geom_corners x.1 x.2.1 post) fun x h _ => Lx_geom_corners  x.1 x.2.1 h
def Dx_geom_Area : Cx := ⟨tabOf Dtab, conOf [(39, Dq_geom_corners), (42, Dq_vec_Minus), (41, Dq_vec_Cross), (40, Dq_vec_Length), (43, Dq_conv_Round)], DG⟩
theorem Dx_geom_Area_ok : CxOk Tryd.prog Dx_geom_Area := ⟨tabB_sound Dtab_ok, conOf_sound ⟨Dh_geom_corners, Dh_vec_Minus, Dh_vec_Cross, Dh_vec_Length, Dh_conv_Round, trivial⟩⟩
theorem Dat_geom_Area : FnAt Tryd.prog 19 Tryd.f19.ntmps Tryd.f19.results.toList (Tryd.f19.body.getD .skip) := ⟨Tryd.f19, Tryd.func19, rfl, rfl, by simp, by decide⟩
theorem Deq_geom_Area (n : Int) (c : Int) (post : Int × Unit → Prop) : fnEval Dx_geom_Area nHn Tryd.f19.ntmps Tryd.f19.results.toList (Tryd.f19.body.getD .skip) [.int .i64, .int .i64] [.snap (.int .i64)] (n, c, ()) post = Fx_geom_Area  n c post := by kernel_rfl
theorem Dh_geom_Area : Dq_geom_Area.holds Tryd.prog DG 19 :=
  detP Dx_geom_Area_ok Dmixed nHn Dat_geom_Area (F := fun x post => Fx_geom_Area  x.1 x.2.1 post) (fun x post => Deq_geom_Area x.1 x.2.1 post) fun x h _ => Lx_geom_Area  x.1 x.2.1 h
end Go.Lift

/- Contracts of functions, of a seat. Own work. -/
set_option linter.unusedVariables false
set_option linter.unusedSimpArgs false
namespace Go.Lift
open Go.Proofs
def Dx_tile_root : Cx := ⟨tabOf Dtab, conOf [], DG⟩
theorem Dx_tile_root_ok : CxOk Tryd.prog Dx_tile_root := ⟨tabB_sound Dtab_ok, fun f c h => by cases h⟩
theorem Dat_tile_root : FnAt Tryd.prog 22 Tryd.f22.ntmps Tryd.f22.results.toList (Tryd.f22.body.getD .skip) := ⟨Tryd.f22, Tryd.func22, rfl, rfl, by simp, by decide⟩
theorem Deq_tile_root (a : Int) (post : Int × Unit → Prop) : fnEval Dx_tile_root Dhn_tile_root Tryd.f22.ntmps Tryd.f22.results.toList (Tryd.f22.body.getD .skip) [.int .i64] [.snap (.int .i64)] (a, ()) post = Fx_tile_root  a post := by kernel_rfl
theorem Dh_tile_root : Dq_tile_root.holds Tryd.prog DG 22 :=
  detP Dx_tile_root_ok Dmixed Dhn_tile_root Dat_tile_root (F := fun x post => Fx_tile_root  x.1 post) (fun x post => Deq_tile_root x.1 post) fun x h _ => Lx_tile_root  x.1 h
def Dx_tile_bounds : Cx := ⟨tabOf Dtab, conOf [], DG⟩
theorem Dx_tile_bounds_ok : CxOk Tryd.prog Dx_tile_bounds := ⟨tabB_sound Dtab_ok, fun f c h => by cases h⟩
theorem Dat_tile_bounds : FnAt Tryd.prog 30 Tryd.f30.ntmps Tryd.f30.results.toList (Tryd.f30.body.getD .skip) := ⟨Tryd.f30, Tryd.func30, rfl, rfl, by simp, by decide⟩
theorem Deq_tile_bounds (a : List Int) (post : Int × Int × Unit → Prop) : fnEval Dx_tile_bounds Dhn_tile_bounds Tryd.f30.ntmps Tryd.f30.results.toList (Tryd.f30.body.getD .skip) [.slice (.int .u32)] [.snap (.int .u32), .snap (.int .u32)] (a, ()) post = Fx_tile_bounds  a post := by kernel_rfl
theorem Dh_tile_bounds : Dq_tile_bounds.holds Tryd.prog DG 30 :=
  detP Dx_tile_bounds_ok Dmixed Dhn_tile_bounds Dat_tile_bounds (F := fun x post => Fx_tile_bounds  x.1 post) (fun x post => Deq_tile_bounds x.1 post) fun x h w => Lx_tile_bounds  x.1 h w
def Dx_tile_good : Cx := ⟨tabOf Dtab, conOf [(30, Dq_tile_bounds)], DG⟩
theorem Dx_tile_good_ok : CxOk Tryd.prog Dx_tile_good := ⟨tabB_sound Dtab_ok, conOf_sound ⟨Dh_tile_bounds, trivial⟩⟩
theorem Dat_tile_good : FnAt Tryd.prog 23 Tryd.f23.ntmps Tryd.f23.results.toList (Tryd.f23.body.getD .skip) := ⟨Tryd.f23, Tryd.func23, rfl, rfl, by simp, by decide⟩
theorem Deq_tile_good (a : Int × Int × Int × List Int) (post : Bool × Unit → Prop) : fnEval Dx_tile_good Dhn_tile_good Tryd.f23.ntmps Tryd.f23.results.toList (Tryd.f23.body.getD .skip) [kTile] [.snap .bool] (a, ()) post = Fx_tile_good 25 a post := by kernel_rfl
theorem Dh_tile_good : Dq_tile_good.holds Tryd.prog DG 23 :=
  detP Dx_tile_good_ok Dmixed Dhn_tile_good Dat_tile_good (F := fun x post => Fx_tile_good 25 x.1 post) (fun x post => Deq_tile_good x.1 post) fun x h w => Lx_tile_good 25 x.1 h w
def Dx_tile_get : Cx := ⟨tabOf Dtab, conOf [], DG⟩
theorem Dx_tile_get_ok : CxOk Tryd.prog Dx_tile_get := ⟨tabB_sound Dtab_ok, fun f c h => by cases h⟩
theorem Dat_tile_get : FnAt Tryd.prog 28 Tryd.f28.ntmps Tryd.f28.results.toList (Tryd.f28.body.getD .skip) := ⟨Tryd.f28, Tryd.func28, rfl, rfl, by simp, by decide⟩
theorem Deq_tile_get (a : List Int) (post : Int × Unit → Prop) : fnEval Dx_tile_get nHn Tryd.f28.ntmps Tryd.f28.results.toList (Tryd.f28.body.getD .skip) [.slice (.int .u8)] [.snap (.int .u32)] (a, ()) post = Fx_tile_get  a post := by kernel_rfl
theorem Dh_tile_get : Dq_tile_get.holds Tryd.prog DG 28 :=
  detP Dx_tile_get_ok Dmixed nHn Dat_tile_get (F := fun x post => Fx_tile_get  x.1 post) (fun x post => Deq_tile_get x.1 post) fun x h _ => Lx_tile_get  x.1 h
def Dx_tile_Encode : Cx := ⟨tabOf Dtab, conOf [(22, Dq_tile_root), (23, Dq_tile_good)], DG⟩
theorem Dx_tile_Encode_ok : CxOk Tryd.prog Dx_tile_Encode := ⟨tabB_sound Dtab_ok, conOf_sound ⟨Dh_tile_root, Dh_tile_good, trivial⟩⟩
theorem Dat_tile_Encode : FnAt Tryd.prog 10 Tryd.f10.ntmps Tryd.f10.results.toList (Tryd.f10.body.getD .skip) := ⟨Tryd.f10, Tryd.func10, rfl, rfl, by simp, by decide⟩
theorem Deq_tile_Encode (a : Int × Int × Int × List Int) (post : (List Int) × Int × Unit → Prop) : fnEvalI Dx_tile_Encode Dhn_tile_Encode (callLvl Dx_tile_Encode Dfns_put 6) Tryd.f10.ntmps Tryd.f10.results.toList (Tryd.f10.body.getD .skip) [kTile] [.own 5 (.int .u8), .snap (.int .i64)] (a, ()) post = Fx_tile_Encode 25 5 a post := by kernel_rfl
theorem Dh_tile_Encode : Dq_tile_Encode.holds Tryd.prog DG 10 :=
  detPI Dx_tile_Encode_ok Dmixed Dhn_tile_Encode (callLvl_ok Dx_tile_Encode_ok Dmixed Dfns_put_ok 6) Dat_tile_Encode (F := fun x post => Fx_tile_Encode 25 5 x.1 post) (fun x post => Deq_tile_Encode x.1 post) fun x h w => Lx_tile_Encode 25 5 x.1 h w
def Dx_tile_Decode : Cx := ⟨tabOf Dtab, conOf [(28, Dq_tile_get), (23, Dq_tile_good)], DG⟩
theorem Dx_tile_Decode_ok : CxOk Tryd.prog Dx_tile_Decode := ⟨tabB_sound Dtab_ok, conOf_sound ⟨Dh_tile_get, Dh_tile_good, trivial⟩⟩
theorem Dat_tile_Decode : FnAt Tryd.prog 12 Tryd.f12.ntmps Tryd.f12.results.toList (Tryd.f12.body.getD .skip) := ⟨Tryd.f12, Tryd.func12, rfl, rfl, by simp, by decide⟩
theorem Deq_tile_Decode (b : List Int) (post : (Int × Int × Int × List Int) × Int × Unit → Prop) : fnEval Dx_tile_Decode Dhn_tile_Decode Tryd.f12.ntmps Tryd.f12.results.toList (Tryd.f12.body.getD .skip) [.slice (.int .u8)] [.snap kTile, .snap (.int .i64)] (b, ()) post = Fx_tile_Decode 25 22 b post := by kernel_rfl
theorem Dh_tile_Decode : Dq_tile_Decode.holds Tryd.prog DG 12 :=
  detP Dx_tile_Decode_ok Dmixed Dhn_tile_Decode Dat_tile_Decode (F := fun x post => Fx_tile_Decode 25 22 x.1 post) (fun x post => Deq_tile_Decode x.1 post) fun x h w => Lx_tile_Decode 25 22 x.1 h w
def Dx_tile_Tiles : Cx := ⟨tabOf Dtab, conOf [(16, Dq_state_Check), (19, Dq_geom_Area), (18, Dq_level_Depth), (17, Dq_conv_To32), (30, Dq_tile_bounds)], DG⟩
theorem Dx_tile_Tiles_ok : CxOk Tryd.prog Dx_tile_Tiles := ⟨tabB_sound Dtab_ok, conOf_sound ⟨Dh_state_Check, Dh_geom_Area, Dh_level_Depth, Dh_conv_To32, Dh_tile_bounds, trivial⟩⟩
theorem Dat_tile_Tiles : FnAt Tryd.prog 15 Tryd.f15.ntmps Tryd.f15.results.toList (Tryd.f15.body.getD .skip) := ⟨Tryd.f15, Tryd.func15, rfl, rfl, by simp, by decide⟩
theorem Deq_tile_Tiles (n : Int) (s : (List Nat) × (List Int) × (List Int) × (List Nat) × Int × Int) (post : (List (Int × Int × Int × List Int)) × Int × Unit → Prop) : fnEval Dx_tile_Tiles Dhn_tile_Tiles Tryd.f15.ntmps Tryd.f15.results.toList (Tryd.f15.body.getD .skip) [.int .i64, kSea] [.snap (.slice kTile), .snap (.int .i64)] (n, s, ()) post = Fx_tile_Tiles 40 25 22 n s post := by kernel_rfl
theorem Dh_tile_Tiles : Dq_tile_Tiles.holds Tryd.prog DG 15 :=
  detP Dx_tile_Tiles_ok Dmixed Dhn_tile_Tiles Dat_tile_Tiles (F := fun x post => Fx_tile_Tiles 40 25 22 x.1 x.2.1 post) (fun x post => Deq_tile_Tiles x.1 x.2.1 post) fun x h w => Lx_tile_Tiles 40 25 22 x.1 x.2.1 h w
end Go.Lift

/- Contracts of functions, of a seat. Own work. -/
set_option linter.unusedVariables false
set_option linter.unusedSimpArgs false
namespace Go.Lift
open Go.Proofs
def Dx_law24_same : Cx := ⟨tabOf Dtab, conOf [], DG⟩
theorem Dx_law24_same_ok : CxOk Tryd.prog Dx_law24_same := ⟨tabB_sound Dtab_ok, fun f c h => by cases h⟩
theorem Dat_law24_same : FnAt Tryd.prog 14 Tryd.f14.ntmps Tryd.f14.results.toList (Tryd.f14.body.getD .skip) := ⟨Tryd.f14, Tryd.func14, rfl, rfl, by simp, by decide⟩
theorem Deq_law24_same (a : Int × Int × Int × List Int) (b : Int × Int × Int × List Int) (post : Bool × Unit → Prop) : fnEval Dx_law24_same Dhn_law24_same Tryd.f14.ntmps Tryd.f14.results.toList (Tryd.f14.body.getD .skip) [kTile, kTile] [.snap .bool] (a, b, ()) post = Fx_law24_same 25 a b post := by kernel_rfl
theorem Dh_law24_same : Dq_law24_same.holds Tryd.prog DG 14 :=
  detP Dx_law24_same_ok Dmixed Dhn_law24_same Dat_law24_same (F := fun x post => Fx_law24_same 25 x.1 x.2.1 post) (fun x post => Deq_law24_same x.1 x.2.1 post) fun x _ w => Lx_law24_same 25 x.1 x.2.1 w
def Dx_law24_four : Cx := ⟨tabOf Dtab, conOf [], DG⟩
theorem Dx_law24_four_ok : CxOk Tryd.prog Dx_law24_four := ⟨tabB_sound Dtab_ok, fun f c h => by cases h⟩
theorem Dat_law24_four : FnAt Tryd.prog 21 Tryd.f21.ntmps Tryd.f21.results.toList (Tryd.f21.body.getD .skip) := ⟨Tryd.f21, Tryd.func21, rfl, rfl, by simp, by decide⟩
theorem Deq_law24_four  (post : (Int × Int × Int × List Int) × Unit → Prop) : fnEval Dx_law24_four nHn Tryd.f21.ntmps Tryd.f21.results.toList (Tryd.f21.body.getD .skip) [] [.snap kTile] (()) post = Fx_law24_four   post := by kernel_rfl
theorem Dh_law24_four : Dq_law24_four.holds Tryd.prog DG 21 :=
  detP Dx_law24_four_ok Dmixed nHn Dat_law24_four (F := fun x post => Fx_law24_four   post) (fun x post => Deq_law24_four  post) fun x _ _ => Lx_law24_four  
def Dx_law24_awake : Cx := ⟨tabOf Dtab, conOf [(21, Dq_law24_four), (10, Dq_tile_Encode), (12, Dq_tile_Decode), (15, Dq_tile_Tiles), (14, Dq_law24_same)], DG⟩
theorem Dx_law24_awake_ok : CxOk Tryd.prog Dx_law24_awake := ⟨tabB_sound Dtab_ok, conOf_sound ⟨Dh_law24_four, Dh_tile_Encode, Dh_tile_Decode, Dh_tile_Tiles, Dh_law24_same, trivial⟩⟩
theorem Dat_law24_awake : FnAt Tryd.prog 9 Tryd.f9.ntmps Tryd.f9.results.toList (Tryd.f9.body.getD .skip) := ⟨Tryd.f9, Tryd.func9, rfl, rfl, by simp, by decide⟩
theorem Deq_law24_awake  (post : Bool × Unit → Prop) : fnEval Dx_law24_awake nHn Tryd.f9.ntmps Tryd.f9.results.toList (Tryd.f9.body.getD .skip) [] [.snap .bool] (()) post = Fx_law24_awake   post := by kernel_rfl
theorem Dh_law24_awake : Dq_law24_awake.holds Tryd.prog DG 9 :=
  detP Dx_law24_awake_ok Dmixed nHn Dat_law24_awake (F := fun x post => Fx_law24_awake   post) (fun x post => Deq_law24_awake  post) fun x _ _ => Lx_law24_awake  
end Go.Lift

/- Contracts of functions, of a seat. Own work. -/
set_option linter.unusedVariables false
set_option linter.unusedSimpArgs false
namespace Go.Lift
open Go.Proofs
theorem Dh_math_Float32frombits : Dq_math_Float32frombits.holds Tryd.prog DG 45 := by
  refine ext_from32 (fn := Tryd.f45) Tryd.func45 (by decide) rfl rfl (by kernel_rfl)
def Dx_conv_From32 : Cx := ⟨tabOf Dtab, conOf [(44, Dq_math_Float64frombits), (45, Dq_math_Float32frombits)], DG⟩
theorem Dx_conv_From32_ok : CxOk Tryd.prog Dx_conv_From32 := ⟨tabB_sound Dtab_ok, conOf_sound ⟨Dh_math_Float64frombits, Dh_math_Float32frombits, trivial⟩⟩
theorem Dat_conv_From32 : FnAt Tryd.prog 20 Tryd.f20.ntmps Tryd.f20.results.toList (Tryd.f20.body.getD .skip) := ⟨Tryd.f20, Tryd.func20, rfl, rfl, by simp, by decide⟩
theorem Deq_conv_From32 (a : Int) (post : Nat × Unit → Prop) : fnEval Dx_conv_From32 nHn Tryd.f20.ntmps Tryd.f20.results.toList (Tryd.f20.body.getD .skip) [.int .u32] [.snap (.flt .f64)] (a, ()) post = Fx_conv_From32  a post := by kernel_rfl
theorem Dh_conv_From32 : Dq_conv_From32.holds Tryd.prog DG 20 :=
  detP Dx_conv_From32_ok Dmixed nHn Dat_conv_From32 (F := fun x post => Fx_conv_From32  x.1 post) (fun x post => Deq_conv_From32 x.1 post) fun x h _ => Lx_conv_From32  x.1 h
def Dx_law24_TileNear : Cx := ⟨tabOf Dtab, conOf [(9, Dq_law24_awake), (15, Dq_tile_Tiles), (19, Dq_geom_Area), (18, Dq_level_Depth), (20, Dq_conv_From32)], DG⟩
theorem Dx_law24_TileNear_ok : CxOk Tryd.prog Dx_law24_TileNear := ⟨tabB_sound Dtab_ok, conOf_sound ⟨Dh_law24_awake, Dh_tile_Tiles, Dh_geom_Area, Dh_level_Depth, Dh_conv_From32, trivial⟩⟩
theorem Dat_law24_TileNear : FnAt Tryd.prog 8 Tryd.f8.ntmps Tryd.f8.results.toList (Tryd.f8.body.getD .skip) := ⟨Tryd.f8, Tryd.func8, rfl, rfl, by simp, by decide⟩
theorem Deq_law24_TileNear (n : Int) (s : (List Nat) × (List Int) × (List Int) × (List Nat) × Int × Int) (post : Bool × Unit → Prop) : fnEval Dx_law24_TileNear Dhn_law24_TileNear Tryd.f8.ntmps Tryd.f8.results.toList (Tryd.f8.body.getD .skip) [.int .i64, kSea] [.snap .bool] (n, s, ()) post = Fx_law24_TileNear 40 n s post := by kernel_rfl
theorem Dh_law24_TileNear : Dq_law24_TileNear.holds Tryd.prog DG 8 :=
  detP Dx_law24_TileNear_ok Dmixed Dhn_law24_TileNear Dat_law24_TileNear (F := fun x post => Fx_law24_TileNear 40 x.1 x.2.1 post) (fun x post => Deq_law24_TileNear x.1 x.2.1 post) fun x h w => Lx_law24_TileNear 40 x.1 x.2.1 h w
end Go.Lift

namespace Go.Proofs.YtomopcclgokehaaDoor
open Go.Lift

theorem tileNear_law : LawSpec Rows.tileNearSpec 2 := ⟨rfl, fun H ds h => by
  match ds, h with
  | [d1, d2], _ => rfl⟩

set_option maxRecDepth 100000 in
theorem tileNear_lifted (os : Os) (started : os.Started) (H : Type) (enc : TypeId × Value → H) :
    ReturnsInHanded {} Tryd.checked os 8 .any (fun w args => (Rows.tileNearSpec.pre enc Tryd.prog Tryd.f8 [] false w args ∧ laidMetH Tryd.prog laidL w) ∧ sizedMet enc Tryd.prog Tryd.f8 (OpenSpec.ofChange Rows.tileNearSpec) false w args) (Rows.tileNearSpec.post enc Tryd.prog Tryd.f8 false true false false) :=
  law_laid (C := Tryd.checked) (X := fun w _ => laidMetH Tryd.prog laidL w) (fun _ _ _ hh h => h.of_heap hh) (fun w _ h => laid_globs w h) own started (by kernel_rfl) Tryd.func8 rfl (by decide)
    (ChangeSpec.witness_shaped (enc := enc) (C := Tryd.checked) (os := os) (X := fun w _ => laidMetH Tryd.prog laidL w) false (World.doorLaid Tryd.prog 400 os) #[.int .i64 0, .agg #[.slice none 0 0, .slice none 0 0, .slice none 0 0, .slice none 0 0, .int .i64 0, .int .i64 0]] 12 rfl (World.shaped_of_RefB (by kernel_rfl) (by kernel_rfl)) (by kernel_rfl) (by kernel_rfl) (by kernel_rfl) (door_met os _))
    laidOut (ktsB_sound _ [.int .i64, kSea] (by kernel_rfl)) (by decide +kernel) rfl (by kernel_rfl) tileNear_law Dh_law24_TileNear (fun x h w => ⟨rngI h.1, rngSe h.2.1⟩)

theorem tileNear_holds : Rows.TileNearSaid :=
  OpenClaim.holds_of_wide 8 Tryd.f8 rfl rfl rfl rfl rfl rfl rfl ⟨rfl, rfl, rfl, rfl, rfl⟩ rfl rfl rfl rfl rfl (by kernel_rfl) Tryd.func8 (by kernel_rfl)
    (of_decide_eq_true (by kernel_rfl)) (by unfold Func.isWrapper; first | (rw [if_pos (by decide +kernel)]; kernel_rfl) | (rw [if_neg (by decide +kernel)]; exact ⟨rfl, rfl⟩))
    (fun os started H enc _ => tileNear_lifted os started H enc)

theorem tileNear_card : Rows.TileNearCardSaid :=
  Claim7.holds_tied_plain_at .later [] [.data] true (true, "901cbe4a31dccb0dbe60f466e19b0f64a9f46ef0e64d151d7ddb72a006a78ac7") false
    tileNear_holds (fun _ h => by cases h) (by kernel_rfl) (fun _ h => by cases h) tileNear_row_tie rfl ⟨rfl, rfl⟩ (by kernel_rfl) rfl
    (fun f fn hf hfn => by
      obtain rfl : f = 8 := Option.some.inj ((show Tryd.prog.funcNamed "tarn/tarnlaw24.TileNear" = some 8 by kernel_rfl).symm.trans hf) |>.symm
      obtain rfl : fn = Tryd.f8 := (Option.some.inj (Tryd.func8.symm.trans hfn)).symm
      exact ⟨by kernel_rfl, fun j t ht => by
        rw [Tryd.params8] at ht
        have hm : t ∈ [3, 40] := by simpa using Array.mem_of_getElem? ht
        have hall : ([3, 40].all fun u => !Tryd.prog.wantsStandIn u) = true := by kernel_rfl
        exact (show Tryd.prog.wantsStandIn t = false by simpa using List.all_eq_true.1 hall t hm)⟩)
    (by kernel_rfl)
end Go.Proofs.YtomopcclgokehaaDoor
